-- out of a program (drive.sh), by way of the translation's print
import Derived.Test.YtaodpgblleiiaaaPx0
import Derived.Test.YtaodpgblleiiaaaPx2
namespace Go.Proofs.Ytaodpgblleiiaaa.P
open Go.RowKit Go.Proofs.YtaodpgblleiiaaaW.PrintWords Go.Proofs.YtaodpgblleiiaaaW.PrintLast Go.Proofs.YtaodpgblleiiaaaW.PrintMore
attribute [local go_sem] max2_int min2_int max_two min_two max_three min_three max_four min_four   -- for this text's walks alone
set_option linter.unusedVariables false
set_option linter.unusedSimpArgs false

/-! ### rotation_Positions: function 22 -/
mutual
def rotation_Positions.j0 : Nat → List (List Int) → Bool → Option (List Int × Int)
  | 0, _, _ => none
  | k + 1, x0, x19 => if x19 = true then (some (([] : List Int), 1)) else (if 0 < (x0.length : Int) then (if 0 ≤ ((rd_L1 x0 0).length : Int) then (if (((rd_L1 x0 0).length : Int) : Int).toNat ≤ 35184372088832 then (rotation_Positions.l0 k ((rd_L1 x0 0).length : Int) (List.replicate (((rd_L1 x0 0).length : Int) : Int).toNat 0) x0 (x0.length : Int) 0) else (none)) else (none)) else (none))
def rotation_Positions.l0 : Nat → Int → List Int → List (List Int) → Int → Int → Option (List Int × Int)
  | 0, _, _, _, _, _ => none
  | k + 1, x4, x5, x26, x27, x28 => if x28 < x27 then (if 0 ≤ x28 then (if x28 < (x26.length : Int) then ((rotation_permutation.f k (rd_L1 x26 x28) x4).bind fun t148 => (if t148 = true then (rotation_Positions.l1 k x4 x5 x26 x27 x28 (rd_L1 x26 x28) ((rd_L1 x26 x28).length : Int) 0) else (some (([] : List Int), 1)))) else (none)) else (none)) else (some (x5, 0))
def rotation_Positions.l1 : Nat → Int → List Int → List (List Int) → Int → Int → List Int → Int → Int → Option (List Int × Int)
  | 0, _, _, _, _, _, _, _, _ => none
  | k + 1, x4, x5, x26, x27, x28, x36, x37, x38 => if x38 < x37 then (if 0 ≤ x38 then (if x38 < (x36.length : Int) then (if 0 ≤ (rd x36 x38) then (if (rd x36 x38) < (x5.length : Int) then (rotation_Positions.l1 k x4 (x5.set ((rd x36 x38) : Int).toNat (wrap64 ((rd x5 (rd x36 x38)) + x38))) x26 x27 x28 x36 x37 (wrap64 (x38 + 1))) else (none)) else (none)) else (none)) else (none)) else (rotation_Positions.l0 k x4 x5 x26 x27 (wrap64 (x28 + 1)))
end
def rotation_Positions.f (k : Nat) (l0 : List (List Int)) : Option (List Int × Int) := if (l0.length : Int) = 0 then (rotation_Positions.j0 k l0 true) else (if 0 < (l0.length : Int) then (rotation_Positions.j0 k l0 (((rd_L1 l0 0).length : Int) == 0)) else (none))
theorem rotation_Positions.mono_l : ∀ k, (∀ y0 y1, LeO (rotation_Positions.j0 k y0 y1) (rotation_Positions.j0 (k + 1) y0 y1)) ∧ (∀ y0 y1 y2 y3 y4, LeO (rotation_Positions.l0 k y0 y1 y2 y3 y4) (rotation_Positions.l0 (k + 1) y0 y1 y2 y3 y4)) ∧ (∀ y0 y1 y2 y3 y4 y5 y6 y7, LeO (rotation_Positions.l1 k y0 y1 y2 y3 y4 y5 y6 y7) (rotation_Positions.l1 (k + 1) y0 y1 y2 y3 y4 y5 y6 y7))
  | 0 => ⟨fun _ _ r h => by simp [rotation_Positions.j0] at h, fun _ _ _ _ _ r h => by simp [rotation_Positions.l0] at h, fun _ _ _ _ _ _ _ _ r h => by simp [rotation_Positions.l1] at h⟩
  | k + 1 => by
    obtain ⟨ih0, ih1, ih2⟩ := rotation_Positions.mono_l k
    refine ⟨?_, ?_, ?_⟩
    · intro y0 y1
      unfold rotation_Positions.j0
      repeat' first
      | (with_reducible exact ih0 _ _)
      | (with_reducible exact ih1 _ _ _ _ _)
      | (with_reducible exact ih2 _ _ _ _ _ _ _ _)
      | (with_reducible exact rotation_permutation.mono _ _ _)
      | (with_reducible exact LeO.refl _)
      | (with_reducible exact LeO.none _)
      | (with_reducible refine LeO.ite ?_ ?_)
      | (with_reducible refine LeO.bind ?_ (fun _ => ?_))
      | exact ih0 _ _
      | exact ih1 _ _ _ _ _
      | exact ih2 _ _ _ _ _ _ _ _
      | exact rotation_permutation.mono _ _ _
      | exact LeO.none _
      | refine LeO.ite ?_ ?_
      | refine LeO.bind ?_ (fun _ => ?_)
    · intro y0 y1 y2 y3 y4
      unfold rotation_Positions.l0
      repeat' first
      | (with_reducible exact ih0 _ _)
      | (with_reducible exact ih1 _ _ _ _ _)
      | (with_reducible exact ih2 _ _ _ _ _ _ _ _)
      | (with_reducible exact rotation_permutation.mono _ _ _)
      | (with_reducible exact LeO.refl _)
      | (with_reducible exact LeO.none _)
      | (with_reducible refine LeO.ite ?_ ?_)
      | (with_reducible refine LeO.bind ?_ (fun _ => ?_))
      | exact ih0 _ _
      | exact ih1 _ _ _ _ _
      | exact ih2 _ _ _ _ _ _ _ _
      | exact rotation_permutation.mono _ _ _
      | exact LeO.none _
      | refine LeO.ite ?_ ?_
      | refine LeO.bind ?_ (fun _ => ?_)
    · intro y0 y1 y2 y3 y4 y5 y6 y7
      unfold rotation_Positions.l1
      repeat' first
      | (with_reducible exact ih0 _ _)
      | (with_reducible exact ih1 _ _ _ _ _)
      | (with_reducible exact ih2 _ _ _ _ _ _ _ _)
      | (with_reducible exact rotation_permutation.mono _ _ _)
      | (with_reducible exact LeO.refl _)
      | (with_reducible exact LeO.none _)
      | (with_reducible refine LeO.ite ?_ ?_)
      | (with_reducible refine LeO.bind ?_ (fun _ => ?_))
      | exact ih0 _ _
      | exact ih1 _ _ _ _ _
      | exact ih2 _ _ _ _ _ _ _ _
      | exact rotation_permutation.mono _ _ _
      | exact LeO.none _
      | refine LeO.ite ?_ ?_
      | refine LeO.bind ?_ (fun _ => ?_)
theorem rotation_Positions.mono : ∀ a0 k, LeO (rotation_Positions.f k a0) (rotation_Positions.f (k + 1) a0) := by
  intro a0 k
  obtain ⟨ih0, ih1, ih2⟩ := rotation_Positions.mono_l k
  unfold rotation_Positions.f
  repeat' first
      | (with_reducible exact ih0 _ _)
      | (with_reducible exact ih1 _ _ _ _ _)
      | (with_reducible exact ih2 _ _ _ _ _ _ _ _)
      | (with_reducible exact rotation_permutation.mono _ _ _)
      | (with_reducible exact LeO.refl _)
      | (with_reducible exact LeO.none _)
      | (with_reducible refine LeO.ite ?_ ?_)
      | (with_reducible refine LeO.bind ?_ (fun _ => ?_))
      | exact ih0 _ _
      | exact ih1 _ _ _ _ _
      | exact ih2 _ _ _ _ _ _ _ _
      | exact rotation_permutation.mono _ _ _
      | exact LeO.none _
      | refine LeO.ite ?_ ?_
      | refine LeO.bind ?_ (fun _ => ?_)
set_option maxHeartbeats 8000000 in
set_option maxRecDepth 100000 in
theorem rotation_Positions.calls (k : Nat) (A0 : Option Addr) (c0 : Nat) (l0 : List (List Int)) (r1 : List Int) (r2 : Int) (w : World) (hr0 : Kd.C (Kd.slice 3 (Kd.int .i64)) w A0 l0.length l0) (hc0 : l0.length ≤ c0) (h : rotation_Positions.f k l0 = some (r1, r2)) :
    Calls Try.prog 22 #[.slice A0 l0.length c0] w fun e w' => ∃ v0_ : Value, e = .returned (.tuple #[v0_, .int .i64 r2]) ∧ Kd.R (Kd.int .i64) 3 w' w.heap.size (fun _ => True) v0_ r1 ∧ Below w.heap.size w w' := by
  have HR0 := Aside0.mk hr0
  have HC0 := Aside0.mk hc0
  clear hr0 hc0
  have HB := Aside0.mk (Below.refl w.heap.size w)
  have H : (if (l0.length : Int) = 0 then (rotation_Positions.j0 k l0 true) else (if 0 < (l0.length : Int) then (rotation_Positions.j0 k l0 (((rd_L1 l0 0).length : Int) == 0)) else (none))) = some (r1, r2) := h
  clear h
  have HC2 := Aside0.mk H
  clear H
  go_enter Try.func22, Try.ntmps22
  go_upto_region 1 with (fail)
  go_cut [19] (fun v19 wc => ∃ (kq : Nat) (x19_1 : Bool), v19 = .bool x19_1 ∧ Aside0 (rotation_Positions.j0 kq l0 x19_1 = some (r1, r2)) ∧ Aside0 (kq ≤ k) ∧ Aside0 (Below w.heap.size w wc))
  case first =>
    have H := HC2.out
    clear HC2
    by_cases c3 : (l0.length : Int) = 0
    · rw [if_pos c3] at H
      have c3b0 : ((l0.length : Int) == 0) = true := beq_iff_eq.mpr c3
      have c3b1 : ((l0.length : Int) != 0) = false := bne_eq_false_iff_eq.mpr c3
      clear c3
      (first | rw [c3b0] | (simp only [i64_w, i32_w]; rw [c3b0]) | skip)
      have H' := Aside0.mk H
      clear H
      go_wp2
      go_meet
      case rel => exact ⟨_, (true), (by first | rfl | (simp; done) | (simp [*]; done)), H', ⟨by first | omega | exact Nat.le_refl _⟩, ⟨by repeat (first | (with_reducible first | exact HB.out | apply below_alloc | apply pw_below_drewN | apply below_drew1) | exact HB.out)⟩⟩
    · rw [if_neg c3] at H
      have c3b0 : ((l0.length : Int) == 0) = false := beq_eq_false_iff_ne.mpr c3
      have c3b1 : ((l0.length : Int) != 0) = true := bne_iff_ne.mpr c3
      have c3b2 : ¬ (l0 = []) := fun h_ => c3 (by rw [h_]; rfl)
      (first | rw [c3b0] | (simp only [i64_w, i32_w]; rw [c3b0]) | skip)
      by_cases c4 : 0 < (l0.length : Int)
      · rw [if_pos c4] at H
        have c4b0 : decide (0 < (l0.length : Int)) = true := decide_eq_true c4
        have c4b1 : decide (0 < l0.length) = true := decide_eq_true (by omega)
        clear c4
        have H' := Aside0.mk H
        clear H
        have p142 : 0 ≤ (0 : Int) := (by omega)
        have q142 : 0 < (l0.length : Int) := of_decide_eq_true (by first | (with_reducible assumption) | assumption)
        obtain ⟨ad142, A142_0, c142_0, e142, hx142_0, hl142_0, hi142_0⟩ := at_L1 HR0.out 0 p142 q142
        cases e142
        have qi142 : (0 < l0.length) = True := eq_true (by omega)
        (try rw [show ((0 : Int)).toNat = 0 from rfl] at hx142_0)
        (try rw [Addr.add_zero'] at hx142_0)
        replace hx142_0 := (HB.out.cell (World.block_lt_of_cell? w _ hx142_0)).trans hx142_0
        have HR142_0 := Aside0.mk hi142_0
        have HC142_0 := Aside0.mk hl142_0
        clear hi142_0 hl142_0
        replace p142 := eq_true p142
        replace q142 := eq_true q142
        go_wp2
        go_meet
        case rel => exact ⟨_, ((((rd_L1 l0 0).length : Int) == 0)), (by first | rfl | (simp; done) | (simp [*]; done)), H', ⟨by first | omega | exact Nat.le_refl _⟩, ⟨by repeat (first | (with_reducible first | exact HB.out | apply below_alloc | apply pw_below_drewN | apply below_drew1) | exact HB.out)⟩⟩
      · rw [if_neg c4] at H
        exact absurd H (by simp)
  case rest =>
    clear HC2
    try clear c1
    try clear p1
    try clear q1
    try clear hx1
    try clear qi1
    try clear c2
    try clear p2
    try clear c3
    try clear c3b0
    try clear c3b1
    try clear c3b2
    try clear c4
    try clear c4b0
    try clear c4b1
    try clear hx142_0
    try clear p142
    try clear q142
    obtain ⟨kq, x19_1, rfl, HA, HJ1, HB⟩ := hcut
    cases kq with
    | zero => exact absurd HA.out (by simp [rotation_Positions.j0])
    | succ kj1 =>
      have H := HA.out
      clear HA
      simp only [rotation_Positions.j0] at H
      by_cases c5 : x19_1 = true
      · subst c5
        have H1 : (some (([] : List Int), 1)) = some (r1, r2) := by rw [if_pos rfl] at H; exact H
        clear H
        have H := H1
        clear H1
        simp only [Option.some.injEq, Prod.mk.injEq] at H
        obtain ⟨rfl, rfl⟩ := H
        go_wp2
        go_ret2
        exact ⟨_, by first | rfl | (simp [errW_none, errW_some] <;> rfl) | (simp [*, errW_none, errW_some] <;> rfl), by first | exact Kd.R_nil _ _ _ _ _ | exact Kd.N_nil _ _ _ _ _ | exact Kd.V_nil _ _ _ _ _ | exact Kd.Q_nil _ _ _ _ _ | exact Kd.S_nil _ _ _ _ _, by repeat (first | (with_reducible first | exact HB.out | apply below_alloc | apply pw_below_drewN | apply below_drew1) | exact HB.out)⟩
      · replace c5 := Bool.eq_false_iff.mpr c5
        subst c5
        have H1 : (if 0 < (l0.length : Int) then (if 0 ≤ ((rd_L1 l0 0).length : Int) then (if (((rd_L1 l0 0).length : Int) : Int).toNat ≤ 35184372088832 then (rotation_Positions.l0 kj1 ((rd_L1 l0 0).length : Int) (List.replicate (((rd_L1 l0 0).length : Int) : Int).toNat 0) l0 (l0.length : Int) 0) else (none)) else (none)) else (none)) = some (r1, r2) := by rw [if_neg (show ¬ (false = true) by decide)] at H; exact H
        clear H
        have H := H1
        clear H1
        by_cases c6 : 0 < (l0.length : Int)
        · rw [if_pos c6] at H
          have c6b0 : decide (0 < (l0.length : Int)) = true := decide_eq_true c6
          have c6b1 : decide (0 < l0.length) = true := decide_eq_true (by omega)
          clear c6
          by_cases c7 : 0 ≤ ((rd_L1 l0 0).length : Int)
          · rw [if_pos c7] at H
            have c7b0 := eq_true c7
            have c7b1 : decide (0 ≤ ((rd_L1 l0 0).length : Int)) = true := decide_eq_true c7
            clear c7
            by_cases c8 : (((rd_L1 l0 0).length : Int) : Int).toNat ≤ 35184372088832
            · rw [if_pos c8] at H
              have c8b0 := eq_true c8
              have c8b1 : decide ((((rd_L1 l0 0).length : Int) : Int).toNat ≤ 35184372088832) = true := decide_eq_true c8
              clear c8
              obtain ⟨y144, hy144⟩ : ∃ y_ : List Int, y_ = (List.replicate (((rd_L1 l0 0).length : Int) : Int).toNat 0) := ⟨_, rfl⟩
              replace H : (rotation_Positions.l0 kj1 ((rd_L1 l0 0).length : Int) y144 l0 (l0.length : Int) 0) = some (r1, r2) := by first | (rw [hy144]; with_reducible exact H) | (have H2_ := (Option.bind_some _ _).symm.trans H; rw [hy144]; with_reducible exact H2_) | (have H2_ := (Option.bind_some _ _).symm.trans H; with_reducible exact H2_) | with_reducible exact H | (rw [hy144]; exact H) | exact H
              have Ny144 := Aside0.mk hy144
              clear hy144
              have H' := Aside0.mk H
              clear H
              have p143 : 0 ≤ (0 : Int) := (by omega)
              have q143 : 0 < (l0.length : Int) := of_decide_eq_true (by first | (with_reducible assumption) | assumption)
              obtain ⟨ad143, A143_0, c143_0, e143, hx143_0, hl143_0, hi143_0⟩ := at_L1 HR0.out 0 p143 q143
              cases e143
              have qi143 : (0 < l0.length) = True := eq_true (by omega)
              (try rw [show ((0 : Int)).toNat = 0 from rfl] at hx143_0)
              (try rw [Addr.add_zero'] at hx143_0)
              replace hx143_0 := (HB.out.cell (World.block_lt_of_cell? w _ hx143_0)).trans hx143_0
              have HR143_0 := Aside0.mk hi143_0
              have HC143_0 := Aside0.mk hl143_0
              clear hi143_0 hl143_0
              replace p143 := eq_true p143
              replace q143 := eq_true q143
              go_wp2_with (first | ((with_reducible refine gate_dst (N := 25) rfl ?_); (try (refine gate_guard (by rfl) ?_; dsimp only)); refine Kd.R_make (Kd.int .i64) _ 3 rfl (N := 25) rfl 31 _ _ rfl ((rd_L1 l0 0).length : Int) rfl rfl Try.underlying31 (.int .i64 0) 8 info3 rfl (by decide) (by omega) 0 (ok := fun _ => True) (okp := fun _ => True) rfl (fun _ hk => hk) trivial (of_decide_eq_true (by first | (with_reducible assumption) | assumption)) (Nat.le_trans (Nat.mul_le_mul_right _ (of_decide_eq_true (by first | (with_reducible assumption) | assumption) : ((rd_L1 l0 0).length : Int).toNat ≤ 35184372088832)) (by omega)) (Below.refl _ _) (Nat.le_refl _) ?_; intro v145 w9 ho10 hb hg_ hnew_; clear hg_ hnew_; (first | rw [← Ny144.out] at ho10 | (simp only [Int.reduceToNat] at ho10; rw [← Ny144.out] at ho10)); have n0_ := Aside0.mk (Kd.R_lower ho10 (below_size (by repeat (first | (with_reducible first | exact HB.out | apply below_alloc | apply pw_below_drewN | apply below_drew1) | exact HB.out)))); have n1_ := Aside0.mk (below_step (by repeat (first | (with_reducible first | exact HB.out | apply below_alloc | apply pw_below_drewN | apply below_drew1) | exact HB.out)) hb); clear HB; have HO146 := n0_; have HB := n1_; clear n0_ n1_; clear hb ho10))
              go_loopg [28] kj1 (fun kq v28 w' => ∃ (x5_2 : List Int) (x28_2 : Int), v28 = .int .i64 x28_2 ∧ Aside0 (rotation_Positions.l0 kq ((rd_L1 l0 0).length : Int) x5_2 l0 (l0.length : Int) x28_2 = some (r1, r2)) ∧ Aside0 (kq ≤ kj1) ∧ Aside0 (Kd.R (Kd.int .i64) 3 w' w.heap.size (fun _ => True) v145 x5_2) ∧ Aside0 (Below w.heap.size w w'))
              case atStart => exact ⟨(y144), (0), (by first | rfl | (simp; done) | (simp [*]; done)), H', ⟨Nat.le_refl _⟩, ⟨by (with_reducible repeat (first | apply Kd.R_alloc | apply Kd.R_drewN | apply Kd.R_drew)); exact HO146.out⟩, ⟨by repeat (first | (with_reducible first | exact HB.out | apply below_alloc | apply pw_below_drewN | apply below_drew1) | exact HB.out)⟩⟩
              case round =>
                clear H'
                try clear c1
                try clear p1
                try clear q1
                try clear hx1
                try clear qi1
                try clear c2
                try clear p2
                try clear c3
                try clear c3b0
                try clear c3b1
                try clear c3b2
                try clear c4
                try clear c4b0
                try clear c4b1
                try clear c5
                try clear c6
                try clear c6b0
                try clear c6b1
                try clear c7
                try clear c7b0
                try clear c7b1
                try clear c8
                try clear c8b0
                try clear c8b1
                try clear hx142_0
                try clear hx143_0
                try clear p1
                try clear p142
                try clear p143
                try clear p2
                try clear q1
                try clear q142
                try clear q143
                obtain ⟨x5_2, x28_2, rfl, HA, HK2, HO_5, HB⟩ := hrel
                cases gk with
                | zero => exact absurd HA.out (by simp [rotation_Positions.l0])
                | succ k2 =>
                  have H := HA.out
                  clear HA
                  simp only [rotation_Positions.l0] at H
                  by_cases c11 : x28_2 < (l0.length : Int)
                  · rw [if_pos c11] at H
                    have c11b0 : decide (x28_2 < (l0.length : Int)) = true := decide_eq_true c11
                    clear c11
                    by_cases c12 : 0 ≤ x28_2
                    · rw [if_pos c12] at H
                      have c12b0 : decide (0 ≤ x28_2) = true := decide_eq_true c12
                      clear c12
                      by_cases c13 : x28_2 < (l0.length : Int)
                      · rw [if_pos c13] at H
                        have c13b0 : decide (x28_2 < (l0.length : Int)) = true := decide_eq_true c13
                        clear c13
                        replace H := Option.bind_eq_some_iff.mp H
                        obtain ⟨t148, A140, H⟩ := H
                        replace H : (if t148 = true then (rotation_Positions.l1 k2 ((rd_L1 l0 0).length : Int) x5_2 l0 (l0.length : Int) x28_2 (rd_L1 l0 x28_2) ((rd_L1 l0 x28_2).length : Int) 0) else (some (([] : List Int), 1))) = some (r1, r2) := H
                        have A14 := Aside0.mk A140
                        clear A140
                        by_cases c15 : t148 = true
                        · subst c15
                          have H1 : (rotation_Positions.l1 k2 ((rd_L1 l0 0).length : Int) x5_2 l0 (l0.length : Int) x28_2 (rd_L1 l0 x28_2) ((rd_L1 l0 x28_2).length : Int) 0) = some (r1, r2) := by rw [if_pos rfl] at H; exact H
                          clear H
                          have H := H1
                          clear H1
                          have H' := Aside0.mk H
                          clear H
                          have p147 : 0 ≤ (x28_2 : Int) := of_decide_eq_true (by first | (with_reducible assumption) | assumption)
                          have q147 : x28_2 < (l0.length : Int) := of_decide_eq_true (by first | (with_reducible assumption) | assumption)
                          obtain ⟨ad147, A147_0, c147_0, e147, hx147_0, hl147_0, hi147_0⟩ := at_L1 HR0.out x28_2 p147 q147
                          obtain rfl : ad143 = ad147 := (by injection e147)
                          replace hx147_0 := (HB.out.cell (World.block_lt_of_cell? w _ hx147_0)).trans hx147_0
                          have HR147_0 := Aside0.mk hi147_0
                          have HC147_0 := Aside0.mk hl147_0
                          clear hi147_0 hl147_0
                          replace p147 := eq_true p147
                          replace q147 := eq_true q147
                          go_wp2_with (first | ((with_reducible refine gate_callee (f := 38) rfl ?_); refine goesL_ (some 34) rfl rfl Try.func38 (by kernel_rfl) rfl #[.slice A147_0 (rd_L1 l0 x28_2).length c147_0, .int .i64 ((rd_L1 l0 0).length : Int)] rfl (by (try simp only [List.map_toArray, List.map_cons, List.map_nil]); first | done | rfl | (simp only [List.length_drop, List.length_take]; rfl)) ?_; (with_reducible refine (rotation_permutation.calls k2 _ _ (rd_L1 l0 x28_2) ((rd_L1 l0 0).length : Int) true _ ?side1 ?side2 A14.out).mono ?_); (case side1 => repeat (first | exact (Kd.C_below HR147_0.out HB.out) | (with_reducible refine Kd.C_alloc ?_ _) | (with_reducible refine Kd.C_drewN ?_ _) | (with_reducible refine Kd.C_drew ?_))); (case side2 => exact HC147_0.out); rintro e w16 ⟨rfl, hb⟩; refine ⟨_, rfl, ?_⟩; have n0_ := Aside0.mk (Kd.R_below (by (with_reducible repeat (first | apply Kd.R_alloc | apply Kd.R_drewN | apply Kd.R_drew)); exact HO_5.out) hb); have n1_ := Aside0.mk (below_step (by repeat (first | (with_reducible first | exact HB.out | apply below_alloc | apply pw_below_drewN | apply below_drew1) | exact HB.out)) hb); clear HO_5; clear HB; have HO_5 := n0_; have HB := n1_; clear n0_ n1_; (try clear hb); (try clear hb2); (try clear hk); (try clear hi)))
                          go_loopg [38] k2 (fun kq v38 w' => ∃ (x5_3 : List Int) (x38_3 : Int), v38 = .int .i64 x38_3 ∧ Aside0 (rotation_Positions.l1 kq ((rd_L1 l0 0).length : Int) x5_3 l0 (l0.length : Int) x28_2 (rd_L1 l0 x28_2) ((rd_L1 l0 x28_2).length : Int) x38_3 = some (r1, r2)) ∧ Aside0 (kq ≤ k2) ∧ Aside0 (Kd.R (Kd.int .i64) 3 w' w.heap.size (fun _ => True) v145 x5_3) ∧ Aside0 (Below w.heap.size w w'))
                          case atStart => exact ⟨(x5_2), (0), (by first | rfl | (simp; done) | (simp [*]; done)), H', ⟨Nat.le_refl _⟩, ⟨by (with_reducible repeat (first | apply Kd.R_alloc | apply Kd.R_drewN | apply Kd.R_drew)); exact HO_5.out⟩, ⟨by repeat (first | (with_reducible first | exact HB.out | apply below_alloc | apply pw_below_drewN | apply below_drew1) | exact HB.out)⟩⟩
                          case round =>
                            clear H'
                            try clear c1
                            try clear p1
                            try clear q1
                            try clear hx1
                            try clear qi1
                            try clear c2
                            try clear p2
                            try clear c3
                            try clear c3b0
                            try clear c3b1
                            try clear c3b2
                            try clear c4
                            try clear c4b0
                            try clear c4b1
                            try clear c5
                            try clear c6
                            try clear c6b0
                            try clear c6b1
                            try clear c7
                            try clear c7b0
                            try clear c7b1
                            try clear c8
                            try clear c8b0
                            try clear c8b1
                            try clear c11
                            try clear c11b0
                            try clear c12
                            try clear c12b0
                            try clear c13
                            try clear c13b0
                            try clear c14
                            try clear p14
                            try clear q14
                            try clear hx14
                            try clear qi14
                            try clear c15
                            try clear hx142_0
                            try clear hx143_0
                            try clear hx147_0
                            try clear p1
                            try clear p142
                            try clear p143
                            try clear p147
                            try clear p2
                            try clear q1
                            try clear q142
                            try clear q143
                            try clear q147
                            obtain ⟨x5_3, x38_3, rfl, HA, HK3, HO_5, HB⟩ := hrel
                            cases gk with
                            | zero => exact absurd HA.out (by simp [rotation_Positions.l1])
                            | succ k3 =>
                              have H := HA.out
                              clear HA
                              simp only [rotation_Positions.l1] at H
                              by_cases c17 : x38_3 < ((rd_L1 l0 x28_2).length : Int)
                              · rw [if_pos c17] at H
                                have c17b0 : decide (x38_3 < ((rd_L1 l0 x28_2).length : Int)) = true := decide_eq_true c17
                                clear c17
                                by_cases c18 : 0 ≤ x38_3
                                · rw [if_pos c18] at H
                                  have c18b0 : decide (0 ≤ x38_3) = true := decide_eq_true c18
                                  clear c18
                                  by_cases c19 : x38_3 < ((rd_L1 l0 x28_2).length : Int)
                                  · rw [if_pos c19] at H
                                    have c19b0 : decide (x38_3 < ((rd_L1 l0 x28_2).length : Int)) = true := decide_eq_true c19
                                    clear c19
                                    by_cases c20 : 0 ≤ (rd (rd_L1 l0 x28_2) x38_3)
                                    · rw [if_pos c20] at H
                                      have c20b0 : decide (0 ≤ (rd (rd_L1 l0 x28_2) x38_3)) = true := decide_eq_true c20
                                      clear c20
                                      by_cases c21 : (rd (rd_L1 l0 x28_2) x38_3) < (x5_3.length : Int)
                                      · rw [if_pos c21] at H
                                        have c21b0 : decide ((rd (rd_L1 l0 x28_2) x38_3) < (x5_3.length : Int)) = true := decide_eq_true c21
                                        clear c21
                                        obtain ⟨y151, hy151⟩ : ∃ y_ : List Int, y_ = (x5_3.set ((rd (rd_L1 l0 x28_2) x38_3) : Int).toNat (wrap64 ((rd x5_3 (rd (rd_L1 l0 x28_2) x38_3)) + x38_3))) := ⟨_, rfl⟩
                                        replace H : (rotation_Positions.l1 k3 ((rd_L1 l0 0).length : Int) y151 l0 (l0.length : Int) x28_2 (rd_L1 l0 x28_2) ((rd_L1 l0 x28_2).length : Int) (wrap64 (x38_3 + 1))) = some (r1, r2) := by first | (rw [hy151]; with_reducible exact H) | (have H2_ := (Option.bind_some _ _).symm.trans H; rw [hy151]; with_reducible exact H2_) | (have H2_ := (Option.bind_some _ _).symm.trans H; with_reducible exact H2_) | with_reducible exact H | (rw [hy151]; exact H) | exact H
                                        have Ny151 := Aside0.mk hy151
                                        clear hy151
                                        have H' := Aside0.mk H
                                        clear H
                                        have p149 : 0 ≤ (x38_3 : Int) := of_decide_eq_true (by first | (with_reducible assumption) | assumption)
                                        have q149 : x38_3 < ((rd_L1 l0 x28_2).length : Int) := of_decide_eq_true (by first | (with_reducible assumption) | assumption)
                                        obtain ⟨ad149, e149, hx149_0⟩ := Kd.at_int HR147_0.out x38_3 p149 q149
                                        cases e149
                                        replace hx149_0 := (HB.out.cell (World.block_lt_of_cell? w _ hx149_0)).trans hx149_0
                                        replace p149 := eq_true p149
                                        replace q149 := eq_true q149
                                        obtain ⟨Ao23, co23, eo23⟩ := Kd.R_slice HO_5.out
                                        subst eo23
                                        have p150 : 0 ≤ ((rd (rd_L1 l0 x28_2) x38_3) : Int) := of_decide_eq_true (by first | (with_reducible assumption) | assumption)
                                        have q150 : (rd (rd_L1 l0 x28_2) x38_3) < (x5_3.length : Int) := of_decide_eq_true (by first | (with_reducible assumption) | assumption)
                                        obtain ⟨ad150, e150, hx150_0⟩ := Kd.at_int (Kd.R_reads' HO_5.out).2.2 (rd (rd_L1 l0 x28_2) x38_3) p150 q150
                                        cases e150
                                        replace p150 := eq_true p150
                                        replace q150 := eq_true q150
                                        have p22 : 0 ≤ ((rd (rd_L1 l0 x28_2) x38_3) : Int) := of_decide_eq_true (by first | (with_reducible assumption) | assumption)
                                        have q22 : ((rd (rd_L1 l0 x28_2) x38_3) : Int) < ((x5_3.length : Int) : Int) := of_decide_eq_true (by first | (with_reducible assumption) | assumption)
                                        obtain ⟨go22, co22, eo22, gb22, gl22, cl22, HG22⟩ := Kd.R_form HO_5.out (by omega)
                                        (first | cases eo22 | (injection eo22 with ea_ en_ ec_; (first | subst ea_ | (injection ea_ with ea_; subst ea_)); subst ec_; clear en_))
                                        have GB22 := Aside0.mk gb22
                                        have GG22 := Aside0.mk HG22
                                        clear gb22 gl22 HG22
                                        (first | simp only [add_plain] at hx150_0 | skip)
                                        obtain ⟨hx22_0, hf22_0⟩ := Kd.R_celln 0 HO_5.out ((rd (rd_L1 l0 x28_2) x38_3) : Int) p22 q22
                                        replace p22 := eq_true p22
                                        replace q22 := eq_true q22
                                        have HP24 := Kd.R_putg HO_5.out ((rd (rd_L1 l0 x28_2) x38_3) : Int) (wrap64 ((rd x5_3 (rd (rd_L1 l0 x28_2) x38_3)) + x38_3))
                                        go_wp2_with (first | ((with_reducible refine gate_store (t := 3) (p := 49) rfl ?_); refine store_event (t := 3) (p := 49) (v := ?vo_w25) (w1 := (wr.setCell ⟨go22, ((rd (rd_L1 l0 x28_2) x38_3) : Int).toNat, none⟩ (.int .i64 (wrap64 ((rd x5_3 (rd (rd_L1 l0 x28_2) x38_3)) + x38_3))))) ?hg ?ho ?hn ?hr ?_; (case ho => rfl); (case hg => rfl); (case hn => rfl); (case hr => first | (go_simp; done) | (go_simp; rfl)); intro w25 hw; have hg : wr.grownBy w25 (some go22) := (by rw [hw]; exact HP24.2); have hp_ : Kd.R (Kd.int .i64) 3 w25 w.heap.size (fun _ => True) (.slice (some ⟨go22, 0, none⟩) x5_3.length co23) y151 := (by rw [hw, Ny151.out]; exact HP24.1); clear HP24; have n0_ := Aside0.mk (hp_); have n1_ := Aside0.mk ((by rw [hw]; exact below_set (HB.out) GB22.out : Below w.heap.size w w25)); clear HO_5; clear HB; have HO_5 := n0_; have HB := n1_; clear n0_ n1_; clear hg hw hp_))
                                        go_roundg k3
                                        case measure => have := HJ1.out; have := HK2.out; have := HK3.out; omega
                                        case rel => exact ⟨(y151), (wrap64 (x38_3 + 1)), (by first | rfl | (simp; done) | (simp [*]; done)), H', ⟨by have := HJ1.out; have := HK2.out; have := HK3.out; omega⟩, ⟨by (with_reducible repeat (first | apply Kd.R_alloc | apply Kd.R_drewN | apply Kd.R_drew)); exact HO_5.out⟩, ⟨by repeat (first | (with_reducible first | exact HB.out | apply below_alloc | apply pw_below_drewN | apply below_drew1) | exact HB.out)⟩⟩
                                      · rw [if_neg c21] at H
                                        exact absurd H (by simp)
                                    · rw [if_neg c20] at H
                                      exact absurd H (by simp)
                                  · rw [if_neg c19] at H
                                    exact absurd H (by simp)
                                · rw [if_neg c18] at H
                                  exact absurd H (by simp)
                              · rw [if_neg c17] at H
                                have c17b0 : decide (x38_3 < ((rd_L1 l0 x28_2).length : Int)) = false := decide_eq_false c17
                                clear c17
                                have H' := Aside0.mk H
                                clear H
                                go_wp2
                                go_roundg k3
                                case measure => have := HJ1.out; have := HK2.out; have := HK3.out; omega
                                case rel => exact ⟨(x5_3), (wrap64 (x28_2 + 1)), (by first | rfl | (simp; done) | (simp [*]; done)), H', ⟨by have := HJ1.out; have := HK2.out; have := HK3.out; omega⟩, ⟨by (with_reducible repeat (first | apply Kd.R_alloc | apply Kd.R_drewN | apply Kd.R_drew)); exact HO_5.out⟩, ⟨by repeat (first | (with_reducible first | exact HB.out | apply below_alloc | apply pw_below_drewN | apply below_drew1) | exact HB.out)⟩⟩
                        · replace c15 := Bool.eq_false_iff.mpr c15
                          subst c15
                          have H1 : (some (([] : List Int), 1)) = some (r1, r2) := by rw [if_neg (show ¬ (false = true) by decide)] at H; exact H
                          clear H
                          have H := H1
                          clear H1
                          simp only [Option.some.injEq, Prod.mk.injEq] at H
                          obtain ⟨rfl, rfl⟩ := H
                          have p147 : 0 ≤ (x28_2 : Int) := of_decide_eq_true (by first | (with_reducible assumption) | assumption)
                          have q147 : x28_2 < (l0.length : Int) := of_decide_eq_true (by first | (with_reducible assumption) | assumption)
                          obtain ⟨ad147, A147_0, c147_0, e147, hx147_0, hl147_0, hi147_0⟩ := at_L1 HR0.out x28_2 p147 q147
                          obtain rfl : ad143 = ad147 := (by injection e147)
                          replace hx147_0 := (HB.out.cell (World.block_lt_of_cell? w _ hx147_0)).trans hx147_0
                          have HR147_0 := Aside0.mk hi147_0
                          have HC147_0 := Aside0.mk hl147_0
                          clear hi147_0 hl147_0
                          replace p147 := eq_true p147
                          replace q147 := eq_true q147
                          go_wp2_with (first | ((with_reducible refine gate_callee (f := 38) rfl ?_); refine goesL_ (some 34) rfl rfl Try.func38 (by kernel_rfl) rfl #[.slice A147_0 (rd_L1 l0 x28_2).length c147_0, .int .i64 ((rd_L1 l0 0).length : Int)] rfl (by (try simp only [List.map_toArray, List.map_cons, List.map_nil]); first | done | rfl | (simp only [List.length_drop, List.length_take]; rfl)) ?_; (with_reducible refine (rotation_permutation.calls k2 _ _ (rd_L1 l0 x28_2) ((rd_L1 l0 0).length : Int) false _ ?side1 ?side2 A14.out).mono ?_); (case side1 => repeat (first | exact (Kd.C_below HR147_0.out HB.out) | (with_reducible refine Kd.C_alloc ?_ _) | (with_reducible refine Kd.C_drewN ?_ _) | (with_reducible refine Kd.C_drew ?_))); (case side2 => exact HC147_0.out); rintro e w26 ⟨rfl, hb⟩; refine ⟨_, rfl, ?_⟩; have n0_ := Aside0.mk (Kd.R_below (by (with_reducible repeat (first | apply Kd.R_alloc | apply Kd.R_drewN | apply Kd.R_drew)); exact HO_5.out) hb); have n1_ := Aside0.mk (below_step (by repeat (first | (with_reducible first | exact HB.out | apply below_alloc | apply pw_below_drewN | apply below_drew1) | exact HB.out)) hb); clear HO_5; clear HB; have HO_5 := n0_; have HB := n1_; clear n0_ n1_; (try clear hb); (try clear hb2); (try clear hk); (try clear hi)))
                          go_ret2
                          exact ⟨_, by first | rfl | (simp [errW_none, errW_some] <;> rfl) | (simp [*, errW_none, errW_some] <;> rfl), by first | exact Kd.R_nil _ _ _ _ _ | exact Kd.N_nil _ _ _ _ _ | exact Kd.V_nil _ _ _ _ _ | exact Kd.Q_nil _ _ _ _ _ | exact Kd.S_nil _ _ _ _ _, by repeat (first | (with_reducible first | exact HB.out | apply below_alloc | apply pw_below_drewN | apply below_drew1) | exact HB.out)⟩
                      · rw [if_neg c13] at H
                        exact absurd H (by simp)
                    · rw [if_neg c12] at H
                      exact absurd H (by simp)
                  · rw [if_neg c11] at H
                    have c11b0 : decide (x28_2 < (l0.length : Int)) = false := decide_eq_false c11
                    clear c11
                    simp only [Option.some.injEq, Prod.mk.injEq] at H
                    obtain ⟨rfl, rfl⟩ := H
                    go_wp2
                    go_ret2
                    exact ⟨_, by first | rfl | (simp [errW_none, errW_some] <;> rfl) | (simp [*, errW_none, errW_some] <;> rfl), by (with_reducible repeat (first | apply Kd.R_alloc | apply Kd.R_drewN | apply Kd.R_drew)); exact HO_5.out, by repeat (first | (with_reducible first | exact HB.out | apply below_alloc | apply pw_below_drewN | apply below_drew1) | exact HB.out)⟩
            · rw [if_neg c8] at H
              exact absurd H (by simp)
          · rw [if_neg c7] at H
            exact absurd H (by simp)
        · rw [if_neg c6] at H
          exact absurd H (by simp)

-- NOT PRINTED: function 51 (slices_IndexFunc_int_int)

-- NOT PRINTED: function 48 (slices_ContainsFunc_int_int)

/-! ### rotation_ranges: function 39 -/

def beyond (m n : Int) : Bool := if n < 0 then true else decide (n > m)

set_option maxHeartbeats 400000 in
theorem bad2_calls (n m : Int) (b : Nat) (w : World) (hc : w.cell? ⟨b, 0, none⟩ = some (.int .i64 m)) :
    Calls Try.prog 47 #[.int .i64 n, .pointer (some ⟨b, 0, none⟩)] w fun e w' => e = .returned (.bool (beyond m n)) ∧ Drawn0 w w' := by
  by_cases h : n < 0
  · have hb : beyond m n = true := by unfold beyond; rw [if_pos h]
    rw [hb]
    have h1 : decide (n < 0) = true := decide_eq_true h
    clear hb h
    go_enter Try.func47, Try.ntmps47
    go_wp2
    repeat (go_quiet (fail); try go_wp2)
    go_ret
    exact ⟨by first | rfl | (simp; done) | (simp [*]; done), by repeat (first | exact Drawn0.refl _ | apply Drawn0.step)⟩
  · have hb : beyond m n = decide (n > m) := by unfold beyond; rw [if_neg h]
    rw [hb]
    have h1 : decide (n < 0) = false := decide_eq_false h
    clear hb h
    go_enter Try.func47, Try.ntmps47
    go_wp2
    repeat (go_quiet (fail); try go_wp2)
    go_ret
    exact ⟨by first | rfl | (simp; done) | (simp [*]; done), by repeat (first | exact Drawn0.refl _ | apply Drawn0.step)⟩

set_option maxHeartbeats 400000 in
theorem bad1_calls (m : Int) (w : World) :
    Calls Try.prog 46 #[.int .i64 m] w fun e w' => ∃ b, e = .returned (.func (.func 47) #[] #[.pointer (some ⟨b, 0, none⟩)]) ∧ w'.cell? ⟨b, 0, none⟩ = some (.int .i64 m) ∧ b < w'.heap.size ∧ Below w.heap.size w w' := by
  go_enter Try.func46, Try.ntmps46
  go_wp2
  go_ret
  exact ⟨w.heap.size, rfl, by simp, by simp, (Below.refl _ _).alloc (Nat.le_refl _) _⟩

def anyB (m : Int) (l : List Int) : Bool := l.any (beyond m)

def IdxPost (m : Int) (l : List Int) (w : World) (e : Ending) (w' : World) : Prop := ∃ r : Int, e = .returned (.int .i64 r) ∧ decide (r ≥ 0) = anyB m l ∧ Drawn0 w w'

theorem any_hit (m : Int) (l : List Int) (k : Nat) (hk : k < l.length) (h : beyond m (rd l k) = true) : anyB m l = true := by
  unfold anyB
  rw [List.any_eq_true]
  refine ⟨rd l k, ?_, h⟩
  unfold rd
  simp [List.getD_eq_getElem?_getD, hk]

theorem any_miss (m : Int) (l : List Int) (h : ∀ j : Nat, j < l.length → beyond m (rd l j) = false) : anyB m l = false := by
  unfold anyB
  rw [List.any_eq_false]
  intro x hx
  obtain ⟨i, hi, rfl⟩ := List.mem_iff_getElem.mp hx
  have := h i hi
  unfold rd at this
  simp [List.getD_eq_getElem?_getD, hi] at this
  simp [this]

set_option maxHeartbeats 1000000 in
theorem index_calls (m : Int) (b : Nat) (A0 : Option Addr) (c0 : Nat) (l0 : List Int) (w : World) (hr0 : Kd.C (Kd.int .i64) w A0 l0.length l0) (hc0 : l0.length ≤ c0) (hbig : l0.length ≤ 140737488351232)
    (hcb : w.cell? ⟨b, 0, none⟩ = some (.int .i64 m)) :
    Calls Try.prog 51 #[.slice A0 l0.length c0, .func (.func 47) #[] #[.pointer (some ⟨b, 0, none⟩)]] w (IdxPost m l0 w) := by
  have HR0 := Aside0.mk hr0
  have HC0 := Aside0.mk hc0
  clear hr0 hc0
  have HCB := Aside0.mk hcb
  clear hcb
  go_enter Try.func51, Try.ntmps51
  go_wp2
  go_loopg [5, 8] (l0.length) (fun gg _ s8 wr => ∃ kk : Nat, kk ≤ l0.length ∧ l0.length - kk ≤ gg ∧ s8 = .int .i64 kk ∧ Aside0 (∀ j : Nat, j < kk → beyond m (rd l0 j) = false) ∧ Drawn0 w wr)
  case atStart => exact ⟨0, Nat.zero_le _, by omega, rfl, ⟨fun j hj => absurd hj (Nat.not_lt_zero _)⟩, by repeat (first | exact Drawn0.refl _ | apply Drawn0.step)⟩
  case round =>
    obtain ⟨kk, hkk, hg, rfl, AA, ⟨m1, rfl⟩⟩ := hrel
    by_cases hlt : kk < l0.length
    · have hltz : (kk : Int) < (l0.length : Int) := by omega
      have p0 : 0 ≤ (kk : Int) := by omega
      obtain ⟨ad, e1, hx⟩ := Kd.at_int HR0.out (kk : Int) p0 hltz
      rw [Int.toNat_natCast] at hx
      cases e1
      have hcell : (w.drewN m1).cell? ⟨b, 0, none⟩ = some (.int .i64 m) := HCB.out
      cases hq : beyond m (rd l0 kk) with
      | true =>
        have hcall := bad2_calls (rd l0 kk) m b (w.drewN m1) hcell
        rw [hq] at hcall
        have hq' := Aside0.mk hq
        clear hq hcell
        go_wp2_with (go_at_call 47; refine hcall.mono ?_; rintro e w' ⟨rfl, ⟨nd, rfl⟩⟩)
        go_ret
        exact ⟨_, rfl, by rw [any_hit m l0 kk hlt hq'.out]; simp, by repeat (first | exact Drawn0.refl _ | apply Drawn0.step)⟩
      | false =>
        have hcall := bad2_calls (rd l0 kk) m b (w.drewN m1) hcell
        rw [hq] at hcall
        have hq' := Aside0.mk hq
        clear hq hcell
        go_wp2_with (go_at_call 47; refine hcall.mono ?_; rintro e w' ⟨rfl, ⟨nd, rfl⟩⟩)
        go_roundg (l0.length - (kk + 1))
        case measure => omega
        case rel =>
          refine ⟨kk + 1, by omega, by omega, by go_num, ⟨fun j hj => ?_⟩, by repeat (first | exact Drawn0.refl _ | apply Drawn0.step)⟩
          by_cases e : j = kk
          · subst e; exact hq'.out
          · exact AA.out j (by omega)
    · have hltz : ¬ (kk : Int) < (l0.length : Int) := by omega
      have hz : l0.length ≤ kk := by omega
      go_wp2
      go_ret
      exact ⟨-1, rfl, by rw [any_miss m l0 (fun j hj => AA.out j (by omega))]; rfl, by repeat (first | exact Drawn0.refl _ | apply Drawn0.step)⟩

theorem below_drn {B : Nat} {a w : World} (h : Below B a w) (n : Nat) : Below B a (w.drewN n) := h.trans ⟨rfl, rfl, rfl, Nat.le_refl _, fun _ _ => rfl⟩

set_option maxHeartbeats 400000 in
theorem contains_calls (m : Int) (b : Nat) (A0 : Option Addr) (c0 : Nat) (l0 : List Int) (w : World) (hr0 : Kd.C (Kd.int .i64) w A0 l0.length l0) (hc0 : l0.length ≤ c0) (hbig : l0.length ≤ 140737488351232)
    (hcb : w.cell? ⟨b, 0, none⟩ = some (.int .i64 m)) :
    Calls Try.prog 48 #[.slice A0 l0.length c0, .func (.func 47) #[] #[.pointer (some ⟨b, 0, none⟩)]] w fun e w' => e = .returned (.bool (anyB m l0)) ∧ Drawn0 w w' := by
  go_enter Try.func48, Try.ntmps48
  go_wp2_with (go_at_call 51; refine (index_calls m b A0 c0 l0 _ hr0 hc0 hbig hcb).mono ?_; rintro e w' ⟨r, rfl, hr, ⟨nd, rfl⟩⟩; have Hr := Aside0.mk hr; clear hr)
  go_ret
  exact ⟨by rw [← Hr.out]; rfl, by repeat (first | exact Drawn0.refl _ | apply Drawn0.step)⟩

def rotation_ranges.f (l0 : List Int) (l1 : List Int) (a2 : Int) : Option Int :=
  if l0.length ≤ 140737488351232 then (if l1.length ≤ 140737488351232 then
    (if anyB 1000 l0 = true then some 5 else if anyB 10000 l1 = true then some 5 else if beyond 100000 a2 = true then some 5 else some 0)
  else none) else none

set_option maxHeartbeats 1000000 in
theorem rotation_ranges.calls (A0 : Option Addr) (c0 : Nat) (l0 : List Int) (A1 : Option Addr) (c1 : Nat) (l1 : List Int) (a2 : Int) (r : Int) (w : World) (hr0 : Kd.C (Kd.int .i64) w A0 l0.length l0) (hc0 : l0.length ≤ c0) (hr1 : Kd.C (Kd.int .i64) w A1 l1.length l1) (hc1 : l1.length ≤ c1) (h : rotation_ranges.f l0 l1 a2 = some r) :
    Calls Try.prog 39 #[.slice A0 l0.length c0, .slice A1 l1.length c1, .int .i64 a2] w fun e w' => e = .returned (.int .i64 r) ∧ Below w.heap.size w w' := by
  unfold rotation_ranges.f at h
  by_cases b0 : l0.length ≤ 140737488351232
  · rw [if_pos b0] at h
    by_cases b1 : l1.length ≤ 140737488351232
    · rw [if_pos b1] at h
      have HR0 := Aside0.mk hr0
      have HR1 := Aside0.mk hr1
      clear hr0 hr1
      cases h1 : anyB 1000 l0 with
      | true =>
        rw [if_pos h1] at h
        obtain rfl := Option.some.inj h
        have h1' := Aside0.mk h1
        clear h1 h
        go_enter Try.func39, Try.ntmps39
        go_wp2_with (go_at_call 46; refine (bad1_calls _ _).mono ?_; rintro e w1 ⟨b, rfl, hcc, hlt1, hb1⟩)
        have hk := Kd.C_below HR0.out hb1
        have hcon := contains_calls 1000 b A0 c0 l0 w1 hk hc0 b0 hcc
        rw [h1'.out] at hcon
        clear hk
        have HB1 := Aside0.mk hb1
        clear hb1
        go_wp2_with (go_at_call 48; refine hcon.mono ?_; rintro e w2 ⟨rfl, ⟨nd, rfl⟩⟩)
        go_ret
        exact ⟨rfl, below_drn HB1.out nd⟩
      | false =>
        rw [if_neg (by rw [h1]; decide)] at h
        have h1' := Aside0.mk h1
        clear h1
        cases h2 : anyB 10000 l1 with
        | true =>
          rw [if_pos h2] at h
          obtain rfl := Option.some.inj h
          have h2' := Aside0.mk h2
          clear h2 h
          go_enter Try.func39, Try.ntmps39
          go_wp2_with (go_at_call 46; refine (bad1_calls _ _).mono ?_; rintro e w1 ⟨b, rfl, hcc, hlt1, hb1⟩)
          have hk := Kd.C_below HR0.out hb1
          have hcon := contains_calls 1000 b A0 c0 l0 w1 hk hc0 b0 hcc
          rw [h1'.out] at hcon
          clear hk
          have HB1 := Aside0.mk hb1
          clear hb1
          go_wp2_with (go_at_call 48; refine hcon.mono ?_; rintro e w2 ⟨rfl, ⟨nd, rfl⟩⟩)
          clear hcon hcc hlt1
          go_wp2_with (go_at_call 46; refine (bad1_calls _ _).mono ?_; rintro e w3 ⟨b', rfl, hcc, hlt1, hb2⟩)
          have HB2 := Aside0.mk ((below_drn HB1.out nd).trans (hb2.mono (by have := HB1.out.size; simpa using this)))
          clear hb2
          have hk := Kd.C_below HR1.out HB2.out
          have hcon := contains_calls 10000 b' A1 c1 l1 w3 hk hc1 b1 hcc
          rw [h2'.out] at hcon
          clear hk
          go_wp2_with (go_at_call 48; refine hcon.mono ?_; rintro e w4 ⟨rfl, ⟨nd2, rfl⟩⟩)
          go_ret
          exact ⟨rfl, below_drn HB2.out nd2⟩
        | false =>
          rw [if_neg (by rw [h2]; decide)] at h
          have h2' := Aside0.mk h2
          clear h2
          cases h3 : beyond 100000 a2 with
          | true =>
            rw [if_pos h3] at h
            obtain rfl := Option.some.inj h
            have h3' := Aside0.mk h3
            clear h3 h
            go_enter Try.func39, Try.ntmps39
            go_wp2_with (go_at_call 46; refine (bad1_calls _ _).mono ?_; rintro e w1 ⟨b, rfl, hcc, hlt1, hb1⟩)
            have hk := Kd.C_below HR0.out hb1
            have hcon := contains_calls 1000 b A0 c0 l0 w1 hk hc0 b0 hcc
            rw [h1'.out] at hcon
            clear hk
            have HB1 := Aside0.mk hb1
            clear hb1
            go_wp2_with (go_at_call 48; refine hcon.mono ?_; rintro e w2 ⟨rfl, ⟨nd, rfl⟩⟩)
            clear hcon hcc hlt1
            go_wp2_with (go_at_call 46; refine (bad1_calls _ _).mono ?_; rintro e w3 ⟨b', rfl, hcc, hlt1, hb2⟩)
            have HB2 := Aside0.mk ((below_drn HB1.out nd).trans (hb2.mono (by have := HB1.out.size; simpa using this)))
            clear hb2
            have hk := Kd.C_below HR1.out HB2.out
            have hcon := contains_calls 10000 b' A1 c1 l1 w3 hk hc1 b1 hcc
            rw [h2'.out] at hcon
            clear hk
            go_wp2_with (go_at_call 48; refine hcon.mono ?_; rintro e w4 ⟨rfl, ⟨nd2, rfl⟩⟩)
            clear hcon hcc hlt1
            go_wp2_with (go_at_call 46; refine (bad1_calls _ _).mono ?_; rintro e w5 ⟨b'', rfl, hcc, hlt1, hb3⟩)
            have HB3 := Aside0.mk ((below_drn HB2.out nd2).trans (hb3.mono (by have := HB2.out.size; simpa using this)))
            clear hb3
            have hcon := bad2_calls a2 100000 b'' w5 hcc
            rw [h3'.out] at hcon
            go_wp2_with (go_at_call 47; refine hcon.mono ?_; rintro e w6 ⟨rfl, ⟨nd3, rfl⟩⟩)
            go_ret
            exact ⟨rfl, below_drn HB3.out nd3⟩
          | false =>
            rw [if_neg (by rw [h3]; decide)] at h
            obtain rfl := Option.some.inj h
            have h3' := Aside0.mk h3
            clear h3 h
            go_enter Try.func39, Try.ntmps39
            go_wp2_with (go_at_call 46; refine (bad1_calls _ _).mono ?_; rintro e w1 ⟨b, rfl, hcc, hlt1, hb1⟩)
            have hk := Kd.C_below HR0.out hb1
            have hcon := contains_calls 1000 b A0 c0 l0 w1 hk hc0 b0 hcc
            rw [h1'.out] at hcon
            clear hk
            have HB1 := Aside0.mk hb1
            clear hb1
            go_wp2_with (go_at_call 48; refine hcon.mono ?_; rintro e w2 ⟨rfl, ⟨nd, rfl⟩⟩)
            clear hcon hcc hlt1
            go_wp2_with (go_at_call 46; refine (bad1_calls _ _).mono ?_; rintro e w3 ⟨b', rfl, hcc, hlt1, hb2⟩)
            have HB2 := Aside0.mk ((below_drn HB1.out nd).trans (hb2.mono (by have := HB1.out.size; simpa using this)))
            clear hb2
            have hk := Kd.C_below HR1.out HB2.out
            have hcon := contains_calls 10000 b' A1 c1 l1 w3 hk hc1 b1 hcc
            rw [h2'.out] at hcon
            clear hk
            go_wp2_with (go_at_call 48; refine hcon.mono ?_; rintro e w4 ⟨rfl, ⟨nd2, rfl⟩⟩)
            clear hcon hcc hlt1
            go_wp2_with (go_at_call 46; refine (bad1_calls _ _).mono ?_; rintro e w5 ⟨b'', rfl, hcc, hlt1, hb3⟩)
            have HB3 := Aside0.mk ((below_drn HB2.out nd2).trans (hb3.mono (by have := HB2.out.size; simpa using this)))
            clear hb3
            have hcon := bad2_calls a2 100000 b'' w5 hcc
            rw [h3'.out] at hcon
            go_wp2_with (go_at_call 47; refine hcon.mono ?_; rintro e w6 ⟨rfl, ⟨nd3, rfl⟩⟩)
            go_ret
            exact ⟨rfl, below_drn HB3.out nd3⟩
    · rw [if_neg b1] at h; exact absurd h (by simp)
  · rw [if_neg b0] at h; exact absurd h (by simp)

end Go.Proofs.Ytaodpgblleiiaaa.P
