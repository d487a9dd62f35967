-- out of a program (drive.sh), by way of the translation's print
import Derived.Test.YtaodpgblleiiaaaPx0
import Derived.Test.YtaodpgblleiiaaaPx8
namespace Go.Proofs.Ytaodpgblleiiaaa.P
open Go.RowKit Go.Proofs.YtaodpgblleiiaaaW.PrintWords Go.Proofs.YtaodpgblleiiaaaW.PrintLast Go.Proofs.YtaodpgblleiiaaaW.PrintMore
attribute [local go_sem] max2_int min2_int max_two min_two max_three min_three max_four min_four   -- for this text's walks alone
set_option linter.unusedVariables false
set_option linter.unusedSimpArgs false

/-! ### rotation_Positions: function 22 -/
mutual
def rotation_Positions.j0 : Nat → List (List Int) → Bool → Option (List Int × Int)
  | 0, _, _ => none
  | k + 1, x0, x19 => if x19 = true then (some (([] : List Int), 1)) else (if 0 < (x0.length : Int) then (if 0 ≤ ((rd_L1 x0 0).length : Int) then (if (((rd_L1 x0 0).length : Int) : Int).toNat ≤ 35184372088832 then (rotation_Positions.l0 k ((rd_L1 x0 0).length : Int) (List.replicate (((rd_L1 x0 0).length : Int) : Int).toNat 0) x0 (x0.length : Int) 0) else (none)) else (none)) else (none))
def rotation_Positions.l0 : Nat → Int → List Int → List (List Int) → Int → Int → Option (List Int × Int)
  | 0, _, _, _, _, _ => none
  | k + 1, x4, x5, x26, x27, x28 => if x28 < x27 then (if 0 ≤ x28 then (if x28 < (x26.length : Int) then ((rotation_permutation.f k (rd_L1 x26 x28) x4).bind fun t150 => (if t150 = true then (rotation_Positions.l1 k x4 x5 x26 x27 x28 (rd_L1 x26 x28) ((rd_L1 x26 x28).length : Int) 0) else (some (([] : List Int), 1)))) else (none)) else (none)) else (some (x5, 0))
def rotation_Positions.l1 : Nat → Int → List Int → List (List Int) → Int → Int → List Int → Int → Int → Option (List Int × Int)
  | 0, _, _, _, _, _, _, _, _ => none
  | k + 1, x4, x5, x26, x27, x28, x36, x37, x38 => if x38 < x37 then (if 0 ≤ x38 then (if x38 < (x36.length : Int) then (if 0 ≤ (rd x36 x38) then (if (rd x36 x38) < (x5.length : Int) then (rotation_Positions.l1 k x4 (x5.set ((rd x36 x38) : Int).toNat (wrap64 ((rd x5 (rd x36 x38)) + x38))) x26 x27 x28 x36 x37 (wrap64 (x38 + 1))) else (none)) else (none)) else (none)) else (none)) else (rotation_Positions.l0 k x4 x5 x26 x27 (wrap64 (x28 + 1)))
end
def rotation_Positions.f (k : Nat) (l0 : List (List Int)) : Option (List Int × Int) := if (l0.length : Int) = 0 then (rotation_Positions.j0 k l0 true) else (if 0 < (l0.length : Int) then (rotation_Positions.j0 k l0 (((rd_L1 l0 0).length : Int) == 0)) else (none))
theorem rotation_Positions.mono_l : ∀ k, (∀ y0 y1, LeO (rotation_Positions.j0 k y0 y1) (rotation_Positions.j0 (k + 1) y0 y1)) ∧ (∀ y0 y1 y2 y3 y4, LeO (rotation_Positions.l0 k y0 y1 y2 y3 y4) (rotation_Positions.l0 (k + 1) y0 y1 y2 y3 y4)) ∧ (∀ y0 y1 y2 y3 y4 y5 y6 y7, LeO (rotation_Positions.l1 k y0 y1 y2 y3 y4 y5 y6 y7) (rotation_Positions.l1 (k + 1) y0 y1 y2 y3 y4 y5 y6 y7))
  | 0 => ⟨fun _ _ r h => by simp [rotation_Positions.j0] at h, fun _ _ _ _ _ r h => by simp [rotation_Positions.l0] at h, fun _ _ _ _ _ _ _ _ r h => by simp [rotation_Positions.l1] at h⟩
  | k + 1 => by
    obtain ⟨ih0, ih1, ih2⟩ := rotation_Positions.mono_l k
    refine ⟨?_, ?_, ?_⟩
    · intro y0 y1
      unfold rotation_Positions.j0
      repeat' first
      | (with_reducible exact ih0 _ _)
      | (with_reducible exact ih1 _ _ _ _ _)
      | (with_reducible exact ih2 _ _ _ _ _ _ _ _)
      | (with_reducible exact rotation_permutation.mono _ _ _)
      | (with_reducible exact LeO.refl _)
      | (with_reducible exact LeO.none _)
      | (with_reducible refine LeO.ite ?_ ?_)
      | (with_reducible refine LeO.bind ?_ (fun _ => ?_))
      | exact ih0 _ _
      | exact ih1 _ _ _ _ _
      | exact ih2 _ _ _ _ _ _ _ _
      | exact rotation_permutation.mono _ _ _
      | exact LeO.none _
      | refine LeO.ite ?_ ?_
      | refine LeO.bind ?_ (fun _ => ?_)
    · intro y0 y1 y2 y3 y4
      unfold rotation_Positions.l0
      repeat' first
      | (with_reducible exact ih0 _ _)
      | (with_reducible exact ih1 _ _ _ _ _)
      | (with_reducible exact ih2 _ _ _ _ _ _ _ _)
      | (with_reducible exact rotation_permutation.mono _ _ _)
      | (with_reducible exact LeO.refl _)
      | (with_reducible exact LeO.none _)
      | (with_reducible refine LeO.ite ?_ ?_)
      | (with_reducible refine LeO.bind ?_ (fun _ => ?_))
      | exact ih0 _ _
      | exact ih1 _ _ _ _ _
      | exact ih2 _ _ _ _ _ _ _ _
      | exact rotation_permutation.mono _ _ _
      | exact LeO.none _
      | refine LeO.ite ?_ ?_
      | refine LeO.bind ?_ (fun _ => ?_)
    · intro y0 y1 y2 y3 y4 y5 y6 y7
      unfold rotation_Positions.l1
      repeat' first
      | (with_reducible exact ih0 _ _)
      | (with_reducible exact ih1 _ _ _ _ _)
      | (with_reducible exact ih2 _ _ _ _ _ _ _ _)
      | (with_reducible exact rotation_permutation.mono _ _ _)
      | (with_reducible exact LeO.refl _)
      | (with_reducible exact LeO.none _)
      | (with_reducible refine LeO.ite ?_ ?_)
      | (with_reducible refine LeO.bind ?_ (fun _ => ?_))
      | exact ih0 _ _
      | exact ih1 _ _ _ _ _
      | exact ih2 _ _ _ _ _ _ _ _
      | exact rotation_permutation.mono _ _ _
      | exact LeO.none _
      | refine LeO.ite ?_ ?_
      | refine LeO.bind ?_ (fun _ => ?_)
theorem rotation_Positions.mono : ∀ a0 k, LeO (rotation_Positions.f k a0) (rotation_Positions.f (k + 1) a0) := by
  intro a0 k
  obtain ⟨ih0, ih1, ih2⟩ := rotation_Positions.mono_l k
  unfold rotation_Positions.f
  repeat' first
      | (with_reducible exact ih0 _ _)
      | (with_reducible exact ih1 _ _ _ _ _)
      | (with_reducible exact ih2 _ _ _ _ _ _ _ _)
      | (with_reducible exact rotation_permutation.mono _ _ _)
      | (with_reducible exact LeO.refl _)
      | (with_reducible exact LeO.none _)
      | (with_reducible refine LeO.ite ?_ ?_)
      | (with_reducible refine LeO.bind ?_ (fun _ => ?_))
      | exact ih0 _ _
      | exact ih1 _ _ _ _ _
      | exact ih2 _ _ _ _ _ _ _ _
      | exact rotation_permutation.mono _ _ _
      | exact LeO.none _
      | refine LeO.ite ?_ ?_
      | refine LeO.bind ?_ (fun _ => ?_)
set_option maxHeartbeats 8000000 in
set_option maxRecDepth 100000 in
theorem rotation_Positions.calls (k : Nat) (A0 : Option Addr) (c0 : Nat) (l0 : List (List Int)) (r1 : List Int) (r2 : Int) (w : World) (hr0 : Kd.C (Kd.slice 3 (Kd.int .i64)) w A0 l0.length l0) (hc0 : l0.length ≤ c0) (h : rotation_Positions.f k l0 = some (r1, r2)) :
    Calls Try.prog 22 #[.slice A0 l0.length c0] w fun e w' => ∃ v0_ : Value, e = .returned (.tuple #[v0_, .int .i64 r2]) ∧ Kd.R (Kd.int .i64) 3 w' w.heap.size (fun _ => True) v0_ r1 ∧ Below w.heap.size w w' := by
  have HR0 := Aside0.mk hr0
  have HC0 := Aside0.mk hc0
  clear hr0 hc0
  have HB := Aside0.mk (Below.refl w.heap.size w)
  have H : (if (l0.length : Int) = 0 then (rotation_Positions.j0 k l0 true) else (if 0 < (l0.length : Int) then (rotation_Positions.j0 k l0 (((rd_L1 l0 0).length : Int) == 0)) else (none))) = some (r1, r2) := h
  clear h
  have HC2 := Aside0.mk H
  clear H
  go_enter Try.func22, Try.ntmps22
  go_upto_region 1 with (fail)
  go_cut [19] (fun v19 wc => ∃ (kq : Nat) (x19_1 : Bool), v19 = .bool x19_1 ∧ Aside0 (rotation_Positions.j0 kq l0 x19_1 = some (r1, r2)) ∧ Aside0 (kq ≤ k) ∧ Aside0 (Below w.heap.size w wc))
  case first =>
    have H := HC2.out
    clear HC2
    by_cases c3 : (l0.length : Int) = 0
    · rw [if_pos c3] at H
      have c3b0 : ((l0.length : Int) == 0) = true := beq_iff_eq.mpr c3
      have c3b1 : ((l0.length : Int) != 0) = false := bne_eq_false_iff_eq.mpr c3
      clear c3
      (first | rw [c3b0] | (simp only [i64_w, i32_w]; rw [c3b0]) | skip)
      have H' := Aside0.mk H
      clear H
      go_wp2
      go_meet
      case rel => exact ⟨_, (true), (by first | rfl | (simp; done) | (simp [*]; done)), H', ⟨by first | omega | exact Nat.le_refl _⟩, ⟨by repeat (first | (with_reducible first | exact HB.out | apply below_alloc | apply pw_below_drewN | apply below_drew1) | exact HB.out)⟩⟩
    · rw [if_neg c3] at H
      have c3b0 : ((l0.length : Int) == 0) = false := beq_eq_false_iff_ne.mpr c3
      have c3b1 : ((l0.length : Int) != 0) = true := bne_iff_ne.mpr c3
      have c3b2 : ¬ (l0 = []) := fun h_ => c3 (by rw [h_]; rfl)
      (first | rw [c3b0] | (simp only [i64_w, i32_w]; rw [c3b0]) | skip)
      by_cases c4 : 0 < (l0.length : Int)
      · rw [if_pos c4] at H
        have c4b0 : decide (0 < (l0.length : Int)) = true := decide_eq_true c4
        have c4b1 : decide (0 < l0.length) = true := decide_eq_true (by omega)
        clear c4
        have H' := Aside0.mk H
        clear H
        have p144 : 0 ≤ (0 : Int) := (by omega)
        have q144 : 0 < (l0.length : Int) := of_decide_eq_true (by first | (with_reducible assumption) | assumption)
        obtain ⟨ad144, A144_0, c144_0, e144, hx144_0, hl144_0, hi144_0⟩ := at_L1 HR0.out 0 p144 q144
        cases e144
        have qi144 : (0 < l0.length) = True := eq_true (by omega)
        (try rw [show ((0 : Int)).toNat = 0 from rfl] at hx144_0)
        (try rw [Addr.add_zero'] at hx144_0)
        replace hx144_0 := (HB.out.cell (World.block_lt_of_cell? w _ hx144_0)).trans hx144_0
        have HR144_0 := Aside0.mk hi144_0
        have HC144_0 := Aside0.mk hl144_0
        clear hi144_0 hl144_0
        replace p144 := eq_true p144
        replace q144 := eq_true q144
        go_wp2
        go_meet
        case rel => exact ⟨_, ((((rd_L1 l0 0).length : Int) == 0)), (by first | rfl | (simp; done) | (simp [*]; done)), H', ⟨by first | omega | exact Nat.le_refl _⟩, ⟨by repeat (first | (with_reducible first | exact HB.out | apply below_alloc | apply pw_below_drewN | apply below_drew1) | exact HB.out)⟩⟩
      · rw [if_neg c4] at H
        exact absurd H (by simp)
  case rest =>
    clear HC2
    try clear c1
    try clear p1
    try clear q1
    try clear hx1
    try clear qi1
    try clear c2
    try clear p2
    try clear c3
    try clear c3b0
    try clear c3b1
    try clear c3b2
    try clear c4
    try clear c4b0
    try clear c4b1
    try clear hx144_0
    try clear p144
    try clear q144
    obtain ⟨kq, x19_1, rfl, HA, HJ1, HB⟩ := hcut
    cases kq with
    | zero => exact absurd HA.out (by simp [rotation_Positions.j0])
    | succ kj1 =>
      have H := HA.out
      clear HA
      simp only [rotation_Positions.j0] at H
      by_cases c5 : x19_1 = true
      · subst c5
        have H1 : (some (([] : List Int), 1)) = some (r1, r2) := by rw [if_pos rfl] at H; exact H
        clear H
        have H := H1
        clear H1
        simp only [Option.some.injEq, Prod.mk.injEq] at H
        obtain ⟨rfl, rfl⟩ := H
        go_wp2
        go_ret2
        exact ⟨_, by first | rfl | (simp [errW_none, errW_some] <;> rfl) | (simp [*, errW_none, errW_some] <;> rfl), by first | exact Kd.R_nil _ _ _ _ _ | exact Kd.N_nil _ _ _ _ _ | exact Kd.V_nil _ _ _ _ _ | exact Kd.Q_nil _ _ _ _ _ | exact Kd.S_nil _ _ _ _ _, by repeat (first | (with_reducible first | exact HB.out | apply below_alloc | apply pw_below_drewN | apply below_drew1) | exact HB.out)⟩
      · replace c5 := Bool.eq_false_iff.mpr c5
        subst c5
        have H1 : (if 0 < (l0.length : Int) then (if 0 ≤ ((rd_L1 l0 0).length : Int) then (if (((rd_L1 l0 0).length : Int) : Int).toNat ≤ 35184372088832 then (rotation_Positions.l0 kj1 ((rd_L1 l0 0).length : Int) (List.replicate (((rd_L1 l0 0).length : Int) : Int).toNat 0) l0 (l0.length : Int) 0) else (none)) else (none)) else (none)) = some (r1, r2) := by rw [if_neg (show ¬ (false = true) by decide)] at H; exact H
        clear H
        have H := H1
        clear H1
        by_cases c6 : 0 < (l0.length : Int)
        · rw [if_pos c6] at H
          have c6b0 : decide (0 < (l0.length : Int)) = true := decide_eq_true c6
          have c6b1 : decide (0 < l0.length) = true := decide_eq_true (by omega)
          clear c6
          by_cases c7 : 0 ≤ ((rd_L1 l0 0).length : Int)
          · rw [if_pos c7] at H
            have c7b0 := eq_true c7
            have c7b1 : decide (0 ≤ ((rd_L1 l0 0).length : Int)) = true := decide_eq_true c7
            clear c7
            by_cases c8 : (((rd_L1 l0 0).length : Int) : Int).toNat ≤ 35184372088832
            · rw [if_pos c8] at H
              have c8b0 := eq_true c8
              have c8b1 : decide ((((rd_L1 l0 0).length : Int) : Int).toNat ≤ 35184372088832) = true := decide_eq_true c8
              clear c8
              obtain ⟨y146, hy146⟩ : ∃ y_ : List Int, y_ = (List.replicate (((rd_L1 l0 0).length : Int) : Int).toNat 0) := ⟨_, rfl⟩
              replace H : (rotation_Positions.l0 kj1 ((rd_L1 l0 0).length : Int) y146 l0 (l0.length : Int) 0) = some (r1, r2) := by first | (rw [hy146]; with_reducible exact H) | (have H2_ := (Option.bind_some _ _).symm.trans H; rw [hy146]; with_reducible exact H2_) | (have H2_ := (Option.bind_some _ _).symm.trans H; with_reducible exact H2_) | with_reducible exact H | (rw [hy146]; exact H) | exact H
              have Ny146 := Aside0.mk hy146
              clear hy146
              have H' := Aside0.mk H
              clear H
              have p145 : 0 ≤ (0 : Int) := (by omega)
              have q145 : 0 < (l0.length : Int) := of_decide_eq_true (by first | (with_reducible assumption) | assumption)
              obtain ⟨ad145, A145_0, c145_0, e145, hx145_0, hl145_0, hi145_0⟩ := at_L1 HR0.out 0 p145 q145
              cases e145
              have qi145 : (0 < l0.length) = True := eq_true (by omega)
              (try rw [show ((0 : Int)).toNat = 0 from rfl] at hx145_0)
              (try rw [Addr.add_zero'] at hx145_0)
              replace hx145_0 := (HB.out.cell (World.block_lt_of_cell? w _ hx145_0)).trans hx145_0
              have HR145_0 := Aside0.mk hi145_0
              have HC145_0 := Aside0.mk hl145_0
              clear hi145_0 hl145_0
              replace p145 := eq_true p145
              replace q145 := eq_true q145
              go_wp2_with (first | ((with_reducible refine gate_dst (N := 25) rfl ?_); (try (refine gate_guard (by rfl) ?_; dsimp only)); refine Kd.R_make (Kd.int .i64) _ 3 rfl (N := 25) rfl 31 _ _ rfl ((rd_L1 l0 0).length : Int) rfl rfl Try.underlying31 (.int .i64 0) 8 info3 rfl (by decide) (by omega) 0 (ok := fun _ => True) (okp := fun _ => True) rfl (fun _ hk => hk) trivial (of_decide_eq_true (by first | (with_reducible assumption) | assumption)) (Nat.le_trans (Nat.mul_le_mul_right _ (of_decide_eq_true (by first | (with_reducible assumption) | assumption) : ((rd_L1 l0 0).length : Int).toNat ≤ 35184372088832)) (by omega)) (Below.refl _ _) (Nat.le_refl _) ?_; intro v147 w9 ho10 hb hg_ hnew_; clear hg_ hnew_; (first | rw [← Ny146.out] at ho10 | (simp only [Int.reduceToNat] at ho10; rw [← Ny146.out] at ho10)); have n0_ := Aside0.mk (Kd.R_lower ho10 (below_size (by repeat (first | (with_reducible first | exact HB.out | apply below_alloc | apply pw_below_drewN | apply below_drew1) | exact HB.out)))); have n1_ := Aside0.mk (below_step (by repeat (first | (with_reducible first | exact HB.out | apply below_alloc | apply pw_below_drewN | apply below_drew1) | exact HB.out)) hb); clear HB; have HO148 := n0_; have HB := n1_; clear n0_ n1_; clear hb ho10))
              go_loopg [28] kj1 (fun kq v28 w' => ∃ (x5_2 : List Int) (x28_2 : Int), v28 = .int .i64 x28_2 ∧ Aside0 (rotation_Positions.l0 kq ((rd_L1 l0 0).length : Int) x5_2 l0 (l0.length : Int) x28_2 = some (r1, r2)) ∧ Aside0 (kq ≤ kj1) ∧ Aside0 (Kd.R (Kd.int .i64) 3 w' w.heap.size (fun _ => True) v147 x5_2) ∧ Aside0 (Below w.heap.size w w'))
              case atStart => exact ⟨(y146), (0), (by first | rfl | (simp; done) | (simp [*]; done)), H', ⟨Nat.le_refl _⟩, ⟨by (with_reducible repeat (first | apply Kd.R_alloc | apply Kd.R_drewN | apply Kd.R_drew)); exact HO148.out⟩, ⟨by repeat (first | (with_reducible first | exact HB.out | apply below_alloc | apply pw_below_drewN | apply below_drew1) | exact HB.out)⟩⟩
              case round =>
                clear H'
                try clear c1
                try clear p1
                try clear q1
                try clear hx1
                try clear qi1
                try clear c2
                try clear p2
                try clear c3
                try clear c3b0
                try clear c3b1
                try clear c3b2
                try clear c4
                try clear c4b0
                try clear c4b1
                try clear c5
                try clear c6
                try clear c6b0
                try clear c6b1
                try clear c7
                try clear c7b0
                try clear c7b1
                try clear c8
                try clear c8b0
                try clear c8b1
                try clear hx144_0
                try clear hx145_0
                try clear p1
                try clear p144
                try clear p145
                try clear p2
                try clear q1
                try clear q144
                try clear q145
                obtain ⟨x5_2, x28_2, rfl, HA, HK2, HO_5, HB⟩ := hrel
                cases gk with
                | zero => exact absurd HA.out (by simp [rotation_Positions.l0])
                | succ k2 =>
                  have H := HA.out
                  clear HA
                  simp only [rotation_Positions.l0] at H
                  by_cases c11 : x28_2 < (l0.length : Int)
                  · rw [if_pos c11] at H
                    have c11b0 : decide (x28_2 < (l0.length : Int)) = true := decide_eq_true c11
                    clear c11
                    by_cases c12 : 0 ≤ x28_2
                    · rw [if_pos c12] at H
                      have c12b0 : decide (0 ≤ x28_2) = true := decide_eq_true c12
                      clear c12
                      by_cases c13 : x28_2 < (l0.length : Int)
                      · rw [if_pos c13] at H
                        have c13b0 : decide (x28_2 < (l0.length : Int)) = true := decide_eq_true c13
                        clear c13
                        replace H := Option.bind_eq_some_iff.mp H
                        obtain ⟨t150, A140, H⟩ := H
                        replace H : (if t150 = true then (rotation_Positions.l1 k2 ((rd_L1 l0 0).length : Int) x5_2 l0 (l0.length : Int) x28_2 (rd_L1 l0 x28_2) ((rd_L1 l0 x28_2).length : Int) 0) else (some (([] : List Int), 1))) = some (r1, r2) := H
                        have A14 := Aside0.mk A140
                        clear A140
                        by_cases c15 : t150 = true
                        · subst c15
                          have H1 : (rotation_Positions.l1 k2 ((rd_L1 l0 0).length : Int) x5_2 l0 (l0.length : Int) x28_2 (rd_L1 l0 x28_2) ((rd_L1 l0 x28_2).length : Int) 0) = some (r1, r2) := by rw [if_pos rfl] at H; exact H
                          clear H
                          have H := H1
                          clear H1
                          have H' := Aside0.mk H
                          clear H
                          have p149 : 0 ≤ (x28_2 : Int) := of_decide_eq_true (by first | (with_reducible assumption) | assumption)
                          have q149 : x28_2 < (l0.length : Int) := of_decide_eq_true (by first | (with_reducible assumption) | assumption)
                          obtain ⟨ad149, A149_0, c149_0, e149, hx149_0, hl149_0, hi149_0⟩ := at_L1 HR0.out x28_2 p149 q149
                          obtain rfl : ad145 = ad149 := (by injection e149)
                          replace hx149_0 := (HB.out.cell (World.block_lt_of_cell? w _ hx149_0)).trans hx149_0
                          have HR149_0 := Aside0.mk hi149_0
                          have HC149_0 := Aside0.mk hl149_0
                          clear hi149_0 hl149_0
                          replace p149 := eq_true p149
                          replace q149 := eq_true q149
                          go_wp2_with (first | ((with_reducible refine gate_callee (f := 38) rfl ?_); refine goesL_ (some 34) rfl rfl Try.func38 (by kernel_rfl) rfl #[.slice A149_0 (rd_L1 l0 x28_2).length c149_0, .int .i64 ((rd_L1 l0 0).length : Int)] rfl (by (try simp only [List.map_toArray, List.map_cons, List.map_nil]); first | done | rfl | (simp only [List.length_drop, List.length_take]; rfl)) ?_; (with_reducible refine (rotation_permutation.calls k2 _ _ (rd_L1 l0 x28_2) ((rd_L1 l0 0).length : Int) true _ ?side1 ?side2 A14.out).mono ?_); (case side1 => repeat (first | exact (Kd.C_below HR149_0.out HB.out) | (with_reducible apply Kd.C_alloc) | (with_reducible apply Kd.C_drewN) | (with_reducible apply Kd.C_drew))); (case side2 => exact HC149_0.out); rintro e w16 ⟨rfl, hb⟩; refine ⟨_, rfl, ?_⟩; have n0_ := Aside0.mk (Kd.R_below (by (with_reducible repeat (first | apply Kd.R_alloc | apply Kd.R_drewN | apply Kd.R_drew)); exact HO_5.out) hb); have n1_ := Aside0.mk (below_step (by repeat (first | (with_reducible first | exact HB.out | apply below_alloc | apply pw_below_drewN | apply below_drew1) | exact HB.out)) hb); clear HO_5; clear HB; have HO_5 := n0_; have HB := n1_; clear n0_ n1_; (try clear hb); (try clear hb2); (try clear hk); (try clear hi)))
                          go_loopg [38] k2 (fun kq v38 w' => ∃ (x5_3 : List Int) (x38_3 : Int), v38 = .int .i64 x38_3 ∧ Aside0 (rotation_Positions.l1 kq ((rd_L1 l0 0).length : Int) x5_3 l0 (l0.length : Int) x28_2 (rd_L1 l0 x28_2) ((rd_L1 l0 x28_2).length : Int) x38_3 = some (r1, r2)) ∧ Aside0 (kq ≤ k2) ∧ Aside0 (Kd.R (Kd.int .i64) 3 w' w.heap.size (fun _ => True) v147 x5_3) ∧ Aside0 (Below w.heap.size w w'))
                          case atStart => exact ⟨(x5_2), (0), (by first | rfl | (simp; done) | (simp [*]; done)), H', ⟨Nat.le_refl _⟩, ⟨by (with_reducible repeat (first | apply Kd.R_alloc | apply Kd.R_drewN | apply Kd.R_drew)); exact HO_5.out⟩, ⟨by repeat (first | (with_reducible first | exact HB.out | apply below_alloc | apply pw_below_drewN | apply below_drew1) | exact HB.out)⟩⟩
                          case round =>
                            clear H'
                            try clear c1
                            try clear p1
                            try clear q1
                            try clear hx1
                            try clear qi1
                            try clear c2
                            try clear p2
                            try clear c3
                            try clear c3b0
                            try clear c3b1
                            try clear c3b2
                            try clear c4
                            try clear c4b0
                            try clear c4b1
                            try clear c5
                            try clear c6
                            try clear c6b0
                            try clear c6b1
                            try clear c7
                            try clear c7b0
                            try clear c7b1
                            try clear c8
                            try clear c8b0
                            try clear c8b1
                            try clear c11
                            try clear c11b0
                            try clear c12
                            try clear c12b0
                            try clear c13
                            try clear c13b0
                            try clear c14
                            try clear p14
                            try clear q14
                            try clear hx14
                            try clear qi14
                            try clear c15
                            try clear hx144_0
                            try clear hx145_0
                            try clear hx149_0
                            try clear p1
                            try clear p144
                            try clear p145
                            try clear p149
                            try clear p2
                            try clear q1
                            try clear q144
                            try clear q145
                            try clear q149
                            obtain ⟨x5_3, x38_3, rfl, HA, HK3, HO_5, HB⟩ := hrel
                            cases gk with
                            | zero => exact absurd HA.out (by simp [rotation_Positions.l1])
                            | succ k3 =>
                              have H := HA.out
                              clear HA
                              simp only [rotation_Positions.l1] at H
                              by_cases c17 : x38_3 < ((rd_L1 l0 x28_2).length : Int)
                              · rw [if_pos c17] at H
                                have c17b0 : decide (x38_3 < ((rd_L1 l0 x28_2).length : Int)) = true := decide_eq_true c17
                                clear c17
                                by_cases c18 : 0 ≤ x38_3
                                · rw [if_pos c18] at H
                                  have c18b0 : decide (0 ≤ x38_3) = true := decide_eq_true c18
                                  clear c18
                                  by_cases c19 : x38_3 < ((rd_L1 l0 x28_2).length : Int)
                                  · rw [if_pos c19] at H
                                    have c19b0 : decide (x38_3 < ((rd_L1 l0 x28_2).length : Int)) = true := decide_eq_true c19
                                    clear c19
                                    by_cases c20 : 0 ≤ (rd (rd_L1 l0 x28_2) x38_3)
                                    · rw [if_pos c20] at H
                                      have c20b0 : decide (0 ≤ (rd (rd_L1 l0 x28_2) x38_3)) = true := decide_eq_true c20
                                      clear c20
                                      by_cases c21 : (rd (rd_L1 l0 x28_2) x38_3) < (x5_3.length : Int)
                                      · rw [if_pos c21] at H
                                        have c21b0 : decide ((rd (rd_L1 l0 x28_2) x38_3) < (x5_3.length : Int)) = true := decide_eq_true c21
                                        clear c21
                                        obtain ⟨y153, hy153⟩ : ∃ y_ : List Int, y_ = (x5_3.set ((rd (rd_L1 l0 x28_2) x38_3) : Int).toNat (wrap64 ((rd x5_3 (rd (rd_L1 l0 x28_2) x38_3)) + x38_3))) := ⟨_, rfl⟩
                                        replace H : (rotation_Positions.l1 k3 ((rd_L1 l0 0).length : Int) y153 l0 (l0.length : Int) x28_2 (rd_L1 l0 x28_2) ((rd_L1 l0 x28_2).length : Int) (wrap64 (x38_3 + 1))) = some (r1, r2) := by first | (rw [hy153]; with_reducible exact H) | (have H2_ := (Option.bind_some _ _).symm.trans H; rw [hy153]; with_reducible exact H2_) | (have H2_ := (Option.bind_some _ _).symm.trans H; with_reducible exact H2_) | with_reducible exact H | (rw [hy153]; exact H) | exact H
                                        have Ny153 := Aside0.mk hy153
                                        clear hy153
                                        have H' := Aside0.mk H
                                        clear H
                                        have p151 : 0 ≤ (x38_3 : Int) := of_decide_eq_true (by first | (with_reducible assumption) | assumption)
                                        have q151 : x38_3 < ((rd_L1 l0 x28_2).length : Int) := of_decide_eq_true (by first | (with_reducible assumption) | assumption)
                                        obtain ⟨ad151, e151, hx151_0⟩ := Kd.at_int HR149_0.out x38_3 p151 q151
                                        cases e151
                                        replace hx151_0 := (HB.out.cell (World.block_lt_of_cell? w _ hx151_0)).trans hx151_0
                                        replace p151 := eq_true p151
                                        replace q151 := eq_true q151
                                        obtain ⟨Ao23, co23, eo23⟩ := Kd.R_slice HO_5.out
                                        subst eo23
                                        have p152 : 0 ≤ ((rd (rd_L1 l0 x28_2) x38_3) : Int) := of_decide_eq_true (by first | (with_reducible assumption) | assumption)
                                        have q152 : (rd (rd_L1 l0 x28_2) x38_3) < (x5_3.length : Int) := of_decide_eq_true (by first | (with_reducible assumption) | assumption)
                                        obtain ⟨ad152, e152, hx152_0⟩ := Kd.at_int (Kd.R_reads' HO_5.out).2.2 (rd (rd_L1 l0 x28_2) x38_3) p152 q152
                                        cases e152
                                        replace p152 := eq_true p152
                                        replace q152 := eq_true q152
                                        have p22 : 0 ≤ ((rd (rd_L1 l0 x28_2) x38_3) : Int) := of_decide_eq_true (by first | (with_reducible assumption) | assumption)
                                        have q22 : ((rd (rd_L1 l0 x28_2) x38_3) : Int) < ((x5_3.length : Int) : Int) := of_decide_eq_true (by first | (with_reducible assumption) | assumption)
                                        obtain ⟨go22, co22, eo22, gb22, gl22, cl22, HG22⟩ := Kd.R_form HO_5.out (by omega)
                                        (first | cases eo22 | (injection eo22 with ea_ en_ ec_; (first | subst ea_ | (injection ea_ with ea_; subst ea_)); subst ec_; clear en_))
                                        have GB22 := Aside0.mk gb22
                                        have GG22 := Aside0.mk HG22
                                        clear gb22 gl22 HG22
                                        (first | simp only [add_plain] at hx152_0 | skip)
                                        obtain ⟨hx22_0, hf22_0⟩ := Kd.R_celln 0 HO_5.out ((rd (rd_L1 l0 x28_2) x38_3) : Int) p22 q22
                                        replace p22 := eq_true p22
                                        replace q22 := eq_true q22
                                        have HP24 := Kd.R_putg HO_5.out ((rd (rd_L1 l0 x28_2) x38_3) : Int) (wrap64 ((rd x5_3 (rd (rd_L1 l0 x28_2) x38_3)) + x38_3))
                                        go_wp2_with (first | ((with_reducible refine gate_store (t := 3) (p := 49) rfl ?_); refine store_event (t := 3) (p := 49) (v := ?vo_w25) (w1 := (wr.setCell ⟨go22, ((rd (rd_L1 l0 x28_2) x38_3) : Int).toNat, none⟩ (.int .i64 (wrap64 ((rd x5_3 (rd (rd_L1 l0 x28_2) x38_3)) + x38_3))))) ?hg ?ho ?hn ?hr ?_; (case ho => rfl); (case hg => rfl); (case hn => rfl); (case hr => first | (go_simp; done) | (go_simp; rfl)); intro w25 hw; have hg : wr.grownBy w25 (some go22) := (by rw [hw]; exact HP24.2); have hp_ : Kd.R (Kd.int .i64) 3 w25 w.heap.size (fun _ => True) (.slice (some ⟨go22, 0, none⟩) x5_3.length co23) y153 := (by rw [hw, Ny153.out]; exact HP24.1); clear HP24; have n0_ := Aside0.mk (hp_); have n1_ := Aside0.mk ((by rw [hw]; exact below_set (HB.out) GB22.out : Below w.heap.size w w25)); clear HO_5; clear HB; have HO_5 := n0_; have HB := n1_; clear n0_ n1_; clear hg hw hp_))
                                        go_roundg k3
                                        case measure => have := HJ1.out; have := HK2.out; have := HK3.out; omega
                                        case rel => exact ⟨(y153), (wrap64 (x38_3 + 1)), (by first | rfl | (simp; done) | (simp [*]; done)), H', ⟨by have := HJ1.out; have := HK2.out; have := HK3.out; omega⟩, ⟨by (with_reducible repeat (first | apply Kd.R_alloc | apply Kd.R_drewN | apply Kd.R_drew)); exact HO_5.out⟩, ⟨by repeat (first | (with_reducible first | exact HB.out | apply below_alloc | apply pw_below_drewN | apply below_drew1) | exact HB.out)⟩⟩
                                      · rw [if_neg c21] at H
                                        exact absurd H (by simp)
                                    · rw [if_neg c20] at H
                                      exact absurd H (by simp)
                                  · rw [if_neg c19] at H
                                    exact absurd H (by simp)
                                · rw [if_neg c18] at H
                                  exact absurd H (by simp)
                              · rw [if_neg c17] at H
                                have c17b0 : decide (x38_3 < ((rd_L1 l0 x28_2).length : Int)) = false := decide_eq_false c17
                                clear c17
                                have H' := Aside0.mk H
                                clear H
                                go_wp2
                                go_roundg k3
                                case measure => have := HJ1.out; have := HK2.out; have := HK3.out; omega
                                case rel => exact ⟨(x5_3), (wrap64 (x28_2 + 1)), (by first | rfl | (simp; done) | (simp [*]; done)), H', ⟨by have := HJ1.out; have := HK2.out; have := HK3.out; omega⟩, ⟨by (with_reducible repeat (first | apply Kd.R_alloc | apply Kd.R_drewN | apply Kd.R_drew)); exact HO_5.out⟩, ⟨by repeat (first | (with_reducible first | exact HB.out | apply below_alloc | apply pw_below_drewN | apply below_drew1) | exact HB.out)⟩⟩
                        · replace c15 := Bool.eq_false_iff.mpr c15
                          subst c15
                          have H1 : (some (([] : List Int), 1)) = some (r1, r2) := by rw [if_neg (show ¬ (false = true) by decide)] at H; exact H
                          clear H
                          have H := H1
                          clear H1
                          simp only [Option.some.injEq, Prod.mk.injEq] at H
                          obtain ⟨rfl, rfl⟩ := H
                          have p149 : 0 ≤ (x28_2 : Int) := of_decide_eq_true (by first | (with_reducible assumption) | assumption)
                          have q149 : x28_2 < (l0.length : Int) := of_decide_eq_true (by first | (with_reducible assumption) | assumption)
                          obtain ⟨ad149, A149_0, c149_0, e149, hx149_0, hl149_0, hi149_0⟩ := at_L1 HR0.out x28_2 p149 q149
                          obtain rfl : ad145 = ad149 := (by injection e149)
                          replace hx149_0 := (HB.out.cell (World.block_lt_of_cell? w _ hx149_0)).trans hx149_0
                          have HR149_0 := Aside0.mk hi149_0
                          have HC149_0 := Aside0.mk hl149_0
                          clear hi149_0 hl149_0
                          replace p149 := eq_true p149
                          replace q149 := eq_true q149
                          go_wp2_with (first | ((with_reducible refine gate_callee (f := 38) rfl ?_); refine goesL_ (some 34) rfl rfl Try.func38 (by kernel_rfl) rfl #[.slice A149_0 (rd_L1 l0 x28_2).length c149_0, .int .i64 ((rd_L1 l0 0).length : Int)] rfl (by (try simp only [List.map_toArray, List.map_cons, List.map_nil]); first | done | rfl | (simp only [List.length_drop, List.length_take]; rfl)) ?_; (with_reducible refine (rotation_permutation.calls k2 _ _ (rd_L1 l0 x28_2) ((rd_L1 l0 0).length : Int) false _ ?side1 ?side2 A14.out).mono ?_); (case side1 => repeat (first | exact (Kd.C_below HR149_0.out HB.out) | (with_reducible apply Kd.C_alloc) | (with_reducible apply Kd.C_drewN) | (with_reducible apply Kd.C_drew))); (case side2 => exact HC149_0.out); rintro e w26 ⟨rfl, hb⟩; refine ⟨_, rfl, ?_⟩; have n0_ := Aside0.mk (Kd.R_below (by (with_reducible repeat (first | apply Kd.R_alloc | apply Kd.R_drewN | apply Kd.R_drew)); exact HO_5.out) hb); have n1_ := Aside0.mk (below_step (by repeat (first | (with_reducible first | exact HB.out | apply below_alloc | apply pw_below_drewN | apply below_drew1) | exact HB.out)) hb); clear HO_5; clear HB; have HO_5 := n0_; have HB := n1_; clear n0_ n1_; (try clear hb); (try clear hb2); (try clear hk); (try clear hi)))
                          go_ret2
                          exact ⟨_, by first | rfl | (simp [errW_none, errW_some] <;> rfl) | (simp [*, errW_none, errW_some] <;> rfl), by first | exact Kd.R_nil _ _ _ _ _ | exact Kd.N_nil _ _ _ _ _ | exact Kd.V_nil _ _ _ _ _ | exact Kd.Q_nil _ _ _ _ _ | exact Kd.S_nil _ _ _ _ _, by repeat (first | (with_reducible first | exact HB.out | apply below_alloc | apply pw_below_drewN | apply below_drew1) | exact HB.out)⟩
                      · rw [if_neg c13] at H
                        exact absurd H (by simp)
                    · rw [if_neg c12] at H
                      exact absurd H (by simp)
                  · rw [if_neg c11] at H
                    have c11b0 : decide (x28_2 < (l0.length : Int)) = false := decide_eq_false c11
                    clear c11
                    simp only [Option.some.injEq, Prod.mk.injEq] at H
                    obtain ⟨rfl, rfl⟩ := H
                    go_wp2
                    go_ret2
                    exact ⟨_, by first | rfl | (simp [errW_none, errW_some] <;> rfl) | (simp [*, errW_none, errW_some] <;> rfl), by (with_reducible repeat (first | apply Kd.R_alloc | apply Kd.R_drewN | apply Kd.R_drew)); exact HO_5.out, by repeat (first | (with_reducible first | exact HB.out | apply below_alloc | apply pw_below_drewN | apply below_drew1) | exact HB.out)⟩
            · rw [if_neg c8] at H
              exact absurd H (by simp)
          · rw [if_neg c7] at H
            exact absurd H (by simp)
        · rw [if_neg c6] at H
          exact absurd H (by simp)

end Go.Proofs.Ytaodpgblleiiaaa.P
