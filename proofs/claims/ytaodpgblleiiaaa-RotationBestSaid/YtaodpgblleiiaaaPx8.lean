-- out of a program (drive.sh), by way of the translation's print
import Derived.Test.YtaodpgblleiiaaaPx0
namespace Go.Proofs.Ytaodpgblleiiaaa.P
open Go.RowKit Go.Proofs.YtaodpgblleiiaaaW.PrintWords Go.Proofs.YtaodpgblleiiaaaW.PrintLast Go.Proofs.YtaodpgblleiiaaaW.PrintMore
attribute [local go_sem] max2_int min2_int max_two min_two max_three min_three max_four min_four   -- for this text's walks alone
set_option linter.unusedVariables false
set_option linter.unusedSimpArgs false

/-! ### rotation_permutation: function 38 -/
def rotation_permutation.l0 : Nat → List Int → Int → List Bool → List Int → Int → Int → Option (Bool)
  | 0, _, _, _, _, _, _ => none
  | k + 1, x0, x1, x5, x10, x11, x12 => if x12 < x11 then (if 0 ≤ x12 then (if x12 < (x10.length : Int) then (if (rd x10 x12) < 0 then (some false) else (if (rd x10 x12) ≥ x1 then (some false) else (if 0 ≤ (rd x10 x12) then (if (rd x10 x12) < (x5.length : Int) then (if rdOf false x5 (rd x10 x12) = true then (some false) else (rotation_permutation.l0 k x0 x1 (x5.set ((rd x10 x12) : Int).toNat true) x10 x11 (wrap64 (x12 + 1)))) else (none)) else (none)))) else (none)) else (none)) else (some ((x0.length : Int) == x1))
def rotation_permutation.f (k : Nat) (l0 : List Int) (a1 : Int) : Option (Bool) := if 0 ≤ a1 then (if (a1 : Int).toNat ≤ 281474976710656 then (rotation_permutation.l0 k l0 a1 (List.replicate (a1 : Int).toNat false) l0 (l0.length : Int) 0) else (none)) else (none)
theorem rotation_permutation.mono_l : ∀ k, (∀ y0 y1 y2 y3 y4 y5, LeO (rotation_permutation.l0 k y0 y1 y2 y3 y4 y5) (rotation_permutation.l0 (k + 1) y0 y1 y2 y3 y4 y5))
  | 0 => fun _ _ _ _ _ _ r h => by simp [rotation_permutation.l0] at h
  | k + 1 => by
    have ih0 := rotation_permutation.mono_l k
    · intro y0 y1 y2 y3 y4 y5
      unfold rotation_permutation.l0
      repeat' first
      | (with_reducible exact ih0 _ _ _ _ _ _)
      | (with_reducible exact LeO.refl _)
      | (with_reducible exact LeO.none _)
      | (with_reducible refine LeO.ite ?_ ?_)
      | (with_reducible refine LeO.bind ?_ (fun _ => ?_))
      | exact ih0 _ _ _ _ _ _
      | exact LeO.none _
      | refine LeO.ite ?_ ?_
      | refine LeO.bind ?_ (fun _ => ?_)
theorem rotation_permutation.mono : ∀ a0 a1 k, LeO (rotation_permutation.f k a0 a1) (rotation_permutation.f (k + 1) a0 a1) := by
  intro a0 a1 k
  have ih0 := rotation_permutation.mono_l k
  unfold rotation_permutation.f
  repeat' first
      | (with_reducible exact ih0 _ _ _ _ _ _)
      | (with_reducible exact LeO.refl _)
      | (with_reducible exact LeO.none _)
      | (with_reducible refine LeO.ite ?_ ?_)
      | (with_reducible refine LeO.bind ?_ (fun _ => ?_))
      | exact ih0 _ _ _ _ _ _
      | exact LeO.none _
      | refine LeO.ite ?_ ?_
      | refine LeO.bind ?_ (fun _ => ?_)
set_option maxHeartbeats 8000000 in
set_option maxRecDepth 100000 in
theorem rotation_permutation.calls (k : Nat) (A0 : Option Addr) (c0 : Nat) (l0 : List Int) (a1 : Int) (r : Bool) (w : World) (hr0 : Kd.C (Kd.int .i64) w A0 l0.length l0) (hc0 : l0.length ≤ c0) (h : rotation_permutation.f k l0 a1 = some r) :
    Calls Try.prog 38 #[.slice A0 l0.length c0, .int .i64 a1] w fun e w' => e = .returned (.bool r) ∧ Below w.heap.size w w' := by
  have HR0 := Aside0.mk hr0
  have HC0 := Aside0.mk hc0
  clear hr0 hc0
  have HB := Aside0.mk (Below.refl w.heap.size w)
  have H : (if 0 ≤ a1 then (if (a1 : Int).toNat ≤ 281474976710656 then (rotation_permutation.l0 k l0 a1 (List.replicate (a1 : Int).toNat false) l0 (l0.length : Int) 0) else (none)) else (none)) = some r := h
  clear h
  by_cases c3 : 0 ≤ a1
  · rw [if_pos c3] at H
    have c3b0 := eq_true c3
    have c3b1 : decide (0 ≤ a1) = true := decide_eq_true c3
    clear c3
    by_cases c4 : (a1 : Int).toNat ≤ 281474976710656
    · rw [if_pos c4] at H
      have c4b0 := eq_true c4
      have c4b1 : decide ((a1 : Int).toNat ≤ 281474976710656) = true := decide_eq_true c4
      clear c4
      obtain ⟨y122, hy122⟩ : ∃ y_ : List Bool, y_ = (List.replicate (a1 : Int).toNat false) := ⟨_, rfl⟩
      replace H : (rotation_permutation.l0 k l0 a1 y122 l0 (l0.length : Int) 0) = some r := by first | (rw [hy122]; with_reducible exact H) | (have H2_ := (Option.bind_some _ _).symm.trans H; rw [hy122]; with_reducible exact H2_) | (have H2_ := (Option.bind_some _ _).symm.trans H; with_reducible exact H2_) | with_reducible exact H | (rw [hy122]; exact H) | exact H
      have Ny122 := Aside0.mk hy122
      clear hy122
      have H' := Aside0.mk H
      clear H
      go_enter Try.func38, Try.ntmps38
      go_wp2_with (first | ((with_reducible refine gate_dst (N := 9) rfl ?_); refine Kd.R_make Kd.bool _ 4 rfl (N := 9) rfl 58 _ _ rfl a1 rfl rfl Try.underlying58 (.bool false) 1 info4 rfl (by decide) (by omega) false (ok := fun _ => True) (okp := fun _ => True) rfl (fun _ hk => hk) trivial (of_decide_eq_true (by first | (with_reducible assumption) | assumption)) (Nat.le_trans (Nat.mul_le_mul_right _ (of_decide_eq_true (by first | (with_reducible assumption) | assumption) : a1.toNat ≤ 281474976710656)) (by omega)) (Below.refl _ _) (Nat.le_refl _) ?_; intro v123 w5 ho6 hb hg_ hnew_; clear hg_ hnew_; (first | rw [← Ny122.out] at ho6 | (simp only [Int.reduceToNat] at ho6; rw [← Ny122.out] at ho6)); have n0_ := Aside0.mk (Kd.R_lower ho6 (below_size (by repeat (first | (with_reducible first | exact HB.out | apply below_alloc | apply pw_below_drewN | apply below_drew1) | exact HB.out)))); have n1_ := Aside0.mk (below_step (by repeat (first | (with_reducible first | exact HB.out | apply below_alloc | apply pw_below_drewN | apply below_drew1) | exact HB.out)) hb); clear HB; have HO124 := n0_; have HB := n1_; clear n0_ n1_; clear hb ho6))
      go_loopg [12] k (fun kq v12 w' => ∃ (x5_1 : List Bool) (x12_1 : Int), v12 = .int .i64 x12_1 ∧ Aside0 (rotation_permutation.l0 kq l0 a1 x5_1 l0 (l0.length : Int) x12_1 = some r) ∧ Aside0 (kq ≤ k) ∧ Aside0 (Kd.R Kd.bool 4 w' w.heap.size (fun _ => True) v123 x5_1) ∧ Aside0 (Below w.heap.size w w'))
      case atStart => exact ⟨(y122), (0), (by first | rfl | (simp; done) | (simp [*]; done)), H', ⟨Nat.le_refl _⟩, ⟨by (with_reducible repeat (first | apply Kd.R_alloc | apply Kd.R_drewN | apply Kd.R_drew)); exact HO124.out⟩, ⟨by repeat (first | (with_reducible first | exact HB.out | apply below_alloc | apply pw_below_drewN | apply below_drew1) | exact HB.out)⟩⟩
      case round =>
        clear H'
        try clear p2
        try clear c3
        try clear c3b0
        try clear c3b1
        try clear c4
        try clear c4b0
        try clear c4b1
        obtain ⟨x5_1, x12_1, rfl, HA, HK1, HO_5, HB⟩ := hrel
        cases gk with
        | zero => exact absurd HA.out (by simp [rotation_permutation.l0])
        | succ k1 =>
          have H := HA.out
          clear HA
          simp only [rotation_permutation.l0] at H
          by_cases c7 : x12_1 < (l0.length : Int)
          · rw [if_pos c7] at H
            have c7b0 : decide (x12_1 < (l0.length : Int)) = true := decide_eq_true c7
            clear c7
            by_cases c8 : 0 ≤ x12_1
            · rw [if_pos c8] at H
              have c8b0 : decide (0 ≤ x12_1) = true := decide_eq_true c8
              clear c8
              by_cases c9 : x12_1 < (l0.length : Int)
              · rw [if_pos c9] at H
                have c9b0 : decide (x12_1 < (l0.length : Int)) = true := decide_eq_true c9
                clear c9
                by_cases c10 : (rd l0 x12_1) < 0
                · rw [if_pos c10] at H
                  have c10b0 : decide ((rd l0 x12_1) < 0) = true := decide_eq_true c10
                  clear c10
                  obtain rfl := Option.some.inj H
                  have p125 : 0 ≤ (x12_1 : Int) := of_decide_eq_true (by first | (with_reducible assumption) | assumption)
                  have q125 : x12_1 < (l0.length : Int) := of_decide_eq_true (by first | (with_reducible assumption) | assumption)
                  obtain ⟨ad125, e125, hx125_0⟩ := Kd.at_int HR0.out x12_1 p125 q125
                  cases e125
                  replace hx125_0 := (HB.out.cell (World.block_lt_of_cell? w _ hx125_0)).trans hx125_0
                  replace p125 := eq_true p125
                  replace q125 := eq_true q125
                  go_wp2
                  go_ret
                  exact ⟨by first | rfl | (simp [errW_none, errW_some] <;> rfl) | (simp [*, errW_none, errW_some] <;> rfl), by repeat (first | (with_reducible first | exact HB.out | apply below_alloc | apply pw_below_drewN | apply below_drew1) | exact HB.out)⟩
                · rw [if_neg c10] at H
                  have c10b0 : decide ((rd l0 x12_1) < 0) = false := decide_eq_false c10
                  clear c10
                  by_cases c11 : (rd l0 x12_1) ≥ a1
                  · rw [if_pos c11] at H
                    have c11b0 : decide (a1 ≤ (rd l0 x12_1)) = true := decide_eq_true c11
                    clear c11
                    obtain rfl := Option.some.inj H
                    have p125 : 0 ≤ (x12_1 : Int) := of_decide_eq_true (by first | (with_reducible assumption) | assumption)
                    have q125 : x12_1 < (l0.length : Int) := of_decide_eq_true (by first | (with_reducible assumption) | assumption)
                    obtain ⟨ad125, e125, hx125_0⟩ := Kd.at_int HR0.out x12_1 p125 q125
                    cases e125
                    replace hx125_0 := (HB.out.cell (World.block_lt_of_cell? w _ hx125_0)).trans hx125_0
                    replace p125 := eq_true p125
                    replace q125 := eq_true q125
                    go_wp2
                    go_ret
                    exact ⟨by first | rfl | (simp [errW_none, errW_some] <;> rfl) | (simp [*, errW_none, errW_some] <;> rfl), by repeat (first | (with_reducible first | exact HB.out | apply below_alloc | apply pw_below_drewN | apply below_drew1) | exact HB.out)⟩
                  · rw [if_neg c11] at H
                    have c11b0 : decide (a1 ≤ (rd l0 x12_1)) = false := decide_eq_false c11
                    clear c11
                    by_cases c12 : 0 ≤ (rd l0 x12_1)
                    · rw [if_pos c12] at H
                      have c12b0 : decide (0 ≤ (rd l0 x12_1)) = true := decide_eq_true c12
                      clear c12
                      by_cases c13 : (rd l0 x12_1) < (x5_1.length : Int)
                      · rw [if_pos c13] at H
                        have c13b0 : decide ((rd l0 x12_1) < (x5_1.length : Int)) = true := decide_eq_true c13
                        clear c13
                        obtain ⟨bq14, hbq14⟩ : ∃ b_ : Bool, b_ = (rdOf false x5_1 (rd l0 x12_1)) := ⟨_, rfl⟩
                        replace H : (if bq14 = true then (some false) else (rotation_permutation.l0 k1 l0 a1 (x5_1.set ((rd l0 x12_1) : Int).toNat true) l0 (l0.length : Int) (wrap64 (x12_1 + 1)))) = some r := by rw [← hbq14] at H; exact H
                        have Nbq14 := Aside0.mk hbq14
                        clear hbq14
                        by_cases c15 : bq14 = true
                        · subst c15
                          have H1 : (some false) = some r := by rw [if_pos rfl] at H; exact H
                          clear H
                          have H := H1
                          clear H1
                          obtain rfl := Option.some.inj H
                          have p125 : 0 ≤ (x12_1 : Int) := of_decide_eq_true (by first | (with_reducible assumption) | assumption)
                          have q125 : x12_1 < (l0.length : Int) := of_decide_eq_true (by first | (with_reducible assumption) | assumption)
                          obtain ⟨ad125, e125, hx125_0⟩ := Kd.at_int HR0.out x12_1 p125 q125
                          cases e125
                          replace hx125_0 := (HB.out.cell (World.block_lt_of_cell? w _ hx125_0)).trans hx125_0
                          replace p125 := eq_true p125
                          replace q125 := eq_true q125
                          obtain ⟨Ao16, co16, eo16⟩ := Kd.R_slice HO_5.out
                          subst eo16
                          have p126 : 0 ≤ ((rd l0 x12_1) : Int) := of_decide_eq_true (by first | (with_reducible assumption) | assumption)
                          have q126 : (rd l0 x12_1) < (x5_1.length : Int) := of_decide_eq_true (by first | (with_reducible assumption) | assumption)
                          obtain ⟨ad126, e126, hx126_0⟩ := Kd.at_bool (Kd.R_reads' HO_5.out).2.2 (rd l0 x12_1) p126 q126
                          (try rw [← Nbq14.out] at hx126_0)
                          cases e126
                          replace p126 := eq_true p126
                          replace q126 := eq_true q126
                          go_wp2
                          go_ret
                          exact ⟨by first | rfl | (simp [errW_none, errW_some] <;> rfl) | (simp [*, errW_none, errW_some] <;> rfl), by repeat (first | (with_reducible first | exact HB.out | apply below_alloc | apply pw_below_drewN | apply below_drew1) | exact HB.out)⟩
                        · replace c15 := Bool.eq_false_iff.mpr c15
                          subst c15
                          have H1 : (rotation_permutation.l0 k1 l0 a1 (x5_1.set ((rd l0 x12_1) : Int).toNat true) l0 (l0.length : Int) (wrap64 (x12_1 + 1))) = some r := by rw [if_neg (show ¬ (false = true) by decide)] at H; exact H
                          clear H
                          have H := H1
                          clear H1
                          obtain ⟨y127, hy127⟩ : ∃ y_ : List Bool, y_ = (x5_1.set ((rd l0 x12_1) : Int).toNat true) := ⟨_, rfl⟩
                          replace H : (rotation_permutation.l0 k1 l0 a1 y127 l0 (l0.length : Int) (wrap64 (x12_1 + 1))) = some r := by first | (rw [hy127]; with_reducible exact H) | (have H2_ := (Option.bind_some _ _).symm.trans H; rw [hy127]; with_reducible exact H2_) | (have H2_ := (Option.bind_some _ _).symm.trans H; with_reducible exact H2_) | with_reducible exact H | (rw [hy127]; exact H) | exact H
                          have Ny127 := Aside0.mk hy127
                          clear hy127
                          have H' := Aside0.mk H
                          clear H
                          have p125 : 0 ≤ (x12_1 : Int) := of_decide_eq_true (by first | (with_reducible assumption) | assumption)
                          have q125 : x12_1 < (l0.length : Int) := of_decide_eq_true (by first | (with_reducible assumption) | assumption)
                          obtain ⟨ad125, e125, hx125_0⟩ := Kd.at_int HR0.out x12_1 p125 q125
                          cases e125
                          replace hx125_0 := (HB.out.cell (World.block_lt_of_cell? w _ hx125_0)).trans hx125_0
                          replace p125 := eq_true p125
                          replace q125 := eq_true q125
                          obtain ⟨Ao18, co18, eo18⟩ := Kd.R_slice HO_5.out
                          subst eo18
                          have p126 : 0 ≤ ((rd l0 x12_1) : Int) := of_decide_eq_true (by first | (with_reducible assumption) | assumption)
                          have q126 : (rd l0 x12_1) < (x5_1.length : Int) := of_decide_eq_true (by first | (with_reducible assumption) | assumption)
                          obtain ⟨ad126, e126, hx126_0⟩ := Kd.at_bool (Kd.R_reads' HO_5.out).2.2 (rd l0 x12_1) p126 q126
                          (try rw [← Nbq14.out] at hx126_0)
                          cases e126
                          replace p126 := eq_true p126
                          replace q126 := eq_true q126
                          have p17 : 0 ≤ ((rd l0 x12_1) : Int) := of_decide_eq_true (by first | (with_reducible assumption) | assumption)
                          have q17 : ((rd l0 x12_1) : Int) < ((x5_1.length : Int) : Int) := of_decide_eq_true (by first | (with_reducible assumption) | assumption)
                          obtain ⟨go17, co17, eo17, gb17, gl17, cl17, HG17⟩ := Kd.R_form HO_5.out (by omega)
                          (first | cases eo17 | (injection eo17 with ea_ en_ ec_; (first | subst ea_ | (injection ea_ with ea_; subst ea_)); subst ec_; clear en_))
                          have GB17 := Aside0.mk gb17
                          have GG17 := Aside0.mk HG17
                          clear gb17 gl17 HG17
                          (first | simp only [add_plain] at hx126_0 | skip)
                          obtain ⟨hx17_0, hf17_0⟩ := Kd.R_celln false HO_5.out ((rd l0 x12_1) : Int) p17 q17
                          replace p17 := eq_true p17
                          replace q17 := eq_true q17
                          have HP19 := Kd.R_putg HO_5.out ((rd l0 x12_1) : Int) true
                          go_wp2_with (first | ((with_reducible refine gate_store (t := 4) (p := 31) rfl ?_); refine store_event (t := 4) (p := 31) (v := ?vo_w20) (w1 := (wr.setCell ⟨go17, ((rd l0 x12_1) : Int).toNat, none⟩ (.bool true))) ?hg ?ho ?hn ?hr ?_; (case ho => rfl); (case hg => rfl); (case hn => rfl); (case hr => first | (go_simp; done) | (go_simp; rfl)); intro w20 hw; have hg : wr.grownBy w20 (some go17) := (by rw [hw]; exact HP19.2); have hp_ : Kd.R Kd.bool 4 w20 w.heap.size (fun _ => True) (.slice (some ⟨go17, 0, none⟩) x5_1.length co18) y127 := (by rw [hw, Ny127.out]; exact HP19.1); clear HP19; have n0_ := Aside0.mk (hp_); have n1_ := Aside0.mk ((by rw [hw]; exact below_set (HB.out) GB17.out : Below w.heap.size w w20)); clear HO_5; clear HB; have HO_5 := n0_; have HB := n1_; clear n0_ n1_; clear hg hw hp_))
                          go_roundg k1
                          case measure => have := HK1.out; omega
                          case rel => exact ⟨(y127), (wrap64 (x12_1 + 1)), (by first | rfl | (simp; done) | (simp [*]; done)), H', ⟨by have := HK1.out; omega⟩, ⟨by (with_reducible repeat (first | apply Kd.R_alloc | apply Kd.R_drewN | apply Kd.R_drew)); exact HO_5.out⟩, ⟨by repeat (first | (with_reducible first | exact HB.out | apply below_alloc | apply pw_below_drewN | apply below_drew1) | exact HB.out)⟩⟩
                      · rw [if_neg c13] at H
                        exact absurd H (by simp)
                    · rw [if_neg c12] at H
                      exact absurd H (by simp)
              · rw [if_neg c9] at H
                exact absurd H (by simp)
            · rw [if_neg c8] at H
              exact absurd H (by simp)
          · rw [if_neg c7] at H
            have c7b0 : decide (x12_1 < (l0.length : Int)) = false := decide_eq_false c7
            clear c7
            obtain rfl := Option.some.inj H
            go_wp2
            go_ret
            exact ⟨by first | rfl | (simp [errW_none, errW_some] <;> rfl) | (simp [*, errW_none, errW_some] <;> rfl), by repeat (first | (with_reducible first | exact HB.out | apply below_alloc | apply pw_below_drewN | apply below_drew1) | exact HB.out)⟩
    · rw [if_neg c4] at H
      exact absurd H (by simp)
  · rw [if_neg c3] at H
    exact absurd H (by simp)

end Go.Proofs.Ytaodpgblleiiaaa.P
