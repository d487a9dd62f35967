-- out of a program (drive.sh), by way of the translation's print
import Derived.Test.YtaodpgblleiiaaaPx0
import Derived.Test.YtaodpgblleiiaaaPx1
import Derived.Test.YtaodpgblleiiaaaPx2
import Derived.Test.YtaodpgblleiiaaaPx3
import Derived.Test.YtaodpgblleiiaaaPx4
namespace Go.Proofs.Ytaodpgblleiiaaa.P
open Go.RowKit Go.Proofs.YtaodpgblleiiaaaW.PrintWords Go.Proofs.YtaodpgblleiiaaaW.PrintLast Go.Proofs.YtaodpgblleiiaaaW.PrintMore
attribute [local go_sem] max2_int min2_int max_two min_two max_three min_three max_four min_four   -- for this text's walks alone
set_option linter.unusedVariables false
set_option linter.unusedSimpArgs false

/-! ### salchowref36_Orders: function 21 -/
mutual
def salchowref36_Orders.l0 : Nat → Int → Int → List (List Int) → Int → Option ((List (List Int)))
  | 0, _, _, _, _ => none
  | k + 1, x0, x1, x5, x6 => if x6 < x1 then (salchowref36_Orders.l1 k x0 x1 x5 x6 (([] : List Int)) 0) else (some x5)
def salchowref36_Orders.l1 : Nat → Int → Int → List (List Int) → Int → List Int → Int → Option ((List (List Int)))
  | 0, _, _, _, _, _, _ => none
  | k + 1, x0, x1, x5, x6, x7, x8 => if x8 < x0 then (if x0 = 0 then (none) else (if x7.length < 17592186044416 then (salchowref36_Orders.l1 k x0 x1 x5 x6 (x7 ++ [Int.tmod (wrap64 (x8 + x6)) x0]) (wrap64 (x8 + 1))) else (none))) else (if x5.length < 5864062014805 then (salchowref36_Orders.l0 k x0 x1 (x5 ++ [x7]) (wrap64 (x6 + 1))) else (none))
end
def salchowref36_Orders.f (k : Nat) (a0 : Int) (a1 : Int) : Option ((List (List Int))) := salchowref36_Orders.l0 k a0 a1 (([] : List (List Int))) 0
theorem salchowref36_Orders.mono_l : ∀ k, (∀ y0 y1 y2 y3, LeO (salchowref36_Orders.l0 k y0 y1 y2 y3) (salchowref36_Orders.l0 (k + 1) y0 y1 y2 y3)) ∧ (∀ y0 y1 y2 y3 y4 y5, LeO (salchowref36_Orders.l1 k y0 y1 y2 y3 y4 y5) (salchowref36_Orders.l1 (k + 1) y0 y1 y2 y3 y4 y5))
  | 0 => ⟨fun _ _ _ _ r h => by simp [salchowref36_Orders.l0] at h, fun _ _ _ _ _ _ r h => by simp [salchowref36_Orders.l1] at h⟩
  | k + 1 => by
    obtain ⟨ih0, ih1⟩ := salchowref36_Orders.mono_l k
    refine ⟨?_, ?_⟩
    · intro y0 y1 y2 y3
      unfold salchowref36_Orders.l0
      repeat' first
      | (with_reducible exact ih0 _ _ _ _)
      | (with_reducible exact ih1 _ _ _ _ _ _)
      | (with_reducible exact LeO.refl _)
      | (with_reducible exact LeO.none _)
      | (with_reducible refine LeO.ite ?_ ?_)
      | (with_reducible refine LeO.bind ?_ (fun _ => ?_))
      | exact ih0 _ _ _ _
      | exact ih1 _ _ _ _ _ _
      | exact LeO.none _
      | refine LeO.ite ?_ ?_
      | refine LeO.bind ?_ (fun _ => ?_)
    · intro y0 y1 y2 y3 y4 y5
      unfold salchowref36_Orders.l1
      repeat' first
      | (with_reducible exact ih0 _ _ _ _)
      | (with_reducible exact ih1 _ _ _ _ _ _)
      | (with_reducible exact LeO.refl _)
      | (with_reducible exact LeO.none _)
      | (with_reducible refine LeO.ite ?_ ?_)
      | (with_reducible refine LeO.bind ?_ (fun _ => ?_))
      | exact ih0 _ _ _ _
      | exact ih1 _ _ _ _ _ _
      | exact LeO.none _
      | refine LeO.ite ?_ ?_
      | refine LeO.bind ?_ (fun _ => ?_)
theorem salchowref36_Orders.mono : ∀ a0 a1 k, LeO (salchowref36_Orders.f k a0 a1) (salchowref36_Orders.f (k + 1) a0 a1) := by
  intro a0 a1 k
  obtain ⟨ih0, ih1⟩ := salchowref36_Orders.mono_l k
  unfold salchowref36_Orders.f
  repeat' first
      | (with_reducible exact ih0 _ _ _ _)
      | (with_reducible exact ih1 _ _ _ _ _ _)
      | (with_reducible exact LeO.refl _)
      | (with_reducible exact LeO.none _)
      | (with_reducible refine LeO.ite ?_ ?_)
      | (with_reducible refine LeO.bind ?_ (fun _ => ?_))
      | exact ih0 _ _ _ _
      | exact ih1 _ _ _ _ _ _
      | exact LeO.none _
      | refine LeO.ite ?_ ?_
      | refine LeO.bind ?_ (fun _ => ?_)
set_option maxHeartbeats 8000000 in
set_option maxRecDepth 100000 in
theorem salchowref36_Orders.calls (k : Nat) (a0 : Int) (a1 : Int) (r : List (List Int)) (w : World) (h : salchowref36_Orders.f k a0 a1 = some r) :
    Calls Try.prog 21 #[.int .i64 a0, .int .i64 a1] w fun e w' => ∃ v0_ : Value, e = .returned (v0_) ∧ Kd.S (Kd.slice 3 (Kd.int .i64)) 31 w' w.heap.size (fun _ => True) v0_ r ∧ Below w.heap.size w w' := by
  have HB := Aside0.mk (Below.refl w.heap.size w)
  have H : (salchowref36_Orders.l0 k a0 a1 (([] : List (List Int))) 0) = some r := h
  clear h
  obtain ⟨y309, hy309⟩ : ∃ y_ : List (List Int), y_ = (([] : List (List Int))) := ⟨_, rfl⟩
  replace H : (salchowref36_Orders.l0 k a0 a1 y309 0) = some r := by first | (rw [hy309]; with_reducible exact H) | (have H2_ := (Option.bind_some _ _).symm.trans H; rw [hy309]; with_reducible exact H2_) | (have H2_ := (Option.bind_some _ _).symm.trans H; with_reducible exact H2_) | with_reducible exact H | (rw [hy309]; exact H) | exact H
  have Ny309 := Aside0.mk hy309
  clear hy309
  have H' := Aside0.mk H
  clear H
  go_enter Try.func21, Try.ntmps21
  go_wp2_with (first | ((with_reducible refine gate_dst (N := 9) rfl ?_); refine Kd.S_lit (Kd.slice 3 (Kd.int .i64)) _ 31 ?hg (N := 9) ?hd (xs := ([] : List (List Int))) (inner := []) (ok := fun _ => True) (okp := fun _ => True) ?hr ?hp (fun _ hk => hk) trivial (Below.refl _ _) (Nat.le_refl _) (by simp) ?_; (case hd => rfl); (case hg => rfl); (case hr => first | (go_simp; done) | (go_simp; rfl)); (case hp => exact (Reps.none _ _)); intro v310 w3 ho4 hb hg_ hnew_; clear hg_ hnew_; (first | rw [← Ny309.out] at ho4 | (simp only [Int.reduceToNat] at ho4; rw [← Ny309.out] at ho4)); have n0_ := Aside0.mk (Kd.S_lower ho4 (below_size (by repeat (first | (with_reducible first | exact HB.out | apply below_alloc | apply pw_below_drewN | apply below_drew1) | exact HB.out)))); have n1_ := Aside0.mk (below_step (by repeat (first | (with_reducible first | exact HB.out | apply below_alloc | apply pw_below_drewN | apply below_drew1) | exact HB.out)) hb); clear HB; have HO311 := n0_; have HB := n1_; clear n0_ n1_; clear hb ho4))
  go_loopg [5, 6] k (fun kq v5 v6 w' => ∃ (x5_1 : List (List Int)) (x6_1 : Int), v6 = .int .i64 x6_1 ∧ Aside0 (salchowref36_Orders.l0 kq a0 a1 x5_1 x6_1 = some r) ∧ Aside0 (kq ≤ k) ∧ Aside0 (Kd.S (Kd.slice 3 (Kd.int .i64)) 31 w' w.heap.size (fun _ => True) v5 x5_1) ∧ Aside0 (Below w.heap.size w w'))
  case atStart => exact ⟨(y309), (0), (by first | rfl | (simp; done) | (simp [*]; done)), H', ⟨Nat.le_refl _⟩, ⟨by (with_reducible repeat (first | apply Kd.S_alloc | apply Kd.S_drewN | apply Kd.S_drew)); exact HO311.out⟩, ⟨by repeat (first | (with_reducible first | exact HB.out | apply below_alloc | apply pw_below_drewN | apply below_drew1) | exact HB.out)⟩⟩
  case round =>
    clear H'
    try clear c2
    try clear p2
    obtain ⟨x5_1, x6_1, rfl, HA, HK1, HO_5, HB⟩ := hrel
    cases gk with
    | zero => exact absurd HA.out (by simp [salchowref36_Orders.l0])
    | succ k1 =>
      have H := HA.out
      clear HA
      simp only [salchowref36_Orders.l0] at H
      by_cases c5 : x6_1 < a1
      · rw [if_pos c5] at H
        have c5b0 : decide (x6_1 < a1) = true := decide_eq_true c5
        clear c5
        obtain ⟨y312, hy312⟩ : ∃ y_ : List Int, y_ = (([] : List Int)) := ⟨_, rfl⟩
        replace H : (salchowref36_Orders.l1 k1 a0 a1 x5_1 x6_1 y312 0) = some r := by first | (rw [hy312]; with_reducible exact H) | (have H2_ := (Option.bind_some _ _).symm.trans H; rw [hy312]; with_reducible exact H2_) | (have H2_ := (Option.bind_some _ _).symm.trans H; with_reducible exact H2_) | with_reducible exact H | (rw [hy312]; exact H) | exact H
        have Ny312 := Aside0.mk hy312
        clear hy312
        have H' := Aside0.mk H
        clear H
        go_wp2_with (first | ((with_reducible refine gate_dst (N := 15) rfl ?_); refine Kd.R_lit (Kd.int .i64) _ 3 ?hg (N := 15) ?hd (xs := ([] : List Int)) (inner := []) (ok := fun _ => True) (okp := fun _ => True) ?hr ?hp (fun _ hk => hk) trivial (Below.refl _ _) (Nat.le_refl _) (by simp) ?_; (case hd => rfl); (case hg => rfl); (case hr => first | (go_simp; done) | (go_simp; rfl)); (case hp => exact (Reps.none _ _)); intro v313 w6 ho7 hb hg_ hnew_; clear hg_ hnew_; (first | rw [← Ny312.out] at ho7 | (simp only [Int.reduceToNat] at ho7; rw [← Ny312.out] at ho7)); have n0_ := Aside0.mk (Kd.S_elder' (by (with_reducible repeat (first | apply Kd.S_alloc | apply Kd.S_drewN | apply Kd.S_drew)); exact HO_5.out) (Kd.R_base ho7) hb); have n1_ := Aside0.mk (Kd.R_lower ho7 (below_size (by repeat (first | (with_reducible first | exact HB.out | apply below_alloc | apply pw_below_drewN | apply below_drew1) | exact HB.out)))); have n2_ := Aside0.mk (below_step (by repeat (first | (with_reducible first | exact HB.out | apply below_alloc | apply pw_below_drewN | apply below_drew1) | exact HB.out)) hb); clear HO_5; clear HB; have HO_5 := n0_; have HO314 := n1_; have HB := n2_; clear n0_ n1_ n2_; clear hb ho7))
        go_loopg [7, 8] k1 (fun kq v7 v8 w' => ∃ (x7_2 : List Int) (x8_2 : Int), v8 = .int .i64 x8_2 ∧ Aside0 (salchowref36_Orders.l1 kq a0 a1 x5_1 x6_1 x7_2 x8_2 = some r) ∧ Aside0 (kq ≤ k1) ∧ Aside0 (Kd.S (Kd.slice 3 (Kd.int .i64)) 31 w' w.heap.size (fun k_ => some k_ ≠ (v7 : Value).ownBlock) u5 x5_1) ∧ Aside0 (Kd.R (Kd.int .i64) 3 w' w.heap.size (fun _ => True) v7 x7_2) ∧ Aside0 (Below w.heap.size w w'))
        case atStart => exact ⟨(y312), (0), (by first | rfl | (simp; done) | (simp [*]; done)), H', ⟨Nat.le_refl _⟩, ⟨by (with_reducible repeat (first | apply Kd.S_alloc | apply Kd.S_drewN | apply Kd.S_drew)); exact Kd.S_mono HO_5.out (fun _ hk => hk.2)⟩, ⟨by (with_reducible repeat (first | apply Kd.R_alloc | apply Kd.R_drewN | apply Kd.R_drew)); exact HO314.out⟩, ⟨by repeat (first | (with_reducible first | exact HB.out | apply below_alloc | apply pw_below_drewN | apply below_drew1) | exact HB.out)⟩⟩
        case round =>
          clear H'
          try clear c2
          try clear p2
          try clear c5
          try clear c5b0
          try clear p2
          obtain ⟨x7_2, x8_2, rfl, HA, HK2, HO_5, HO_7, HB⟩ := hrel
          cases gk with
          | zero => exact absurd HA.out (by simp [salchowref36_Orders.l1])
          | succ k2 =>
            have H := HA.out
            clear HA
            simp only [salchowref36_Orders.l1] at H
            by_cases c8 : x8_2 < a0
            · rw [if_pos c8] at H
              have c8b0 : decide (x8_2 < a0) = true := decide_eq_true c8
              clear c8
              by_cases c9 : a0 = 0
              · rw [if_pos c9] at H
                exact absurd H (by simp)
              · rw [if_neg c9] at H
                have c9b0 : (a0 == 0) = false := beq_eq_false_iff_ne.mpr c9
                have c9b1 : (a0 != 0) = true := bne_iff_ne.mpr c9
                by_cases c10 : x7_2.length < 17592186044416
                · rw [if_pos c10] at H
                  have LMc10 := Aside0.mk c10
                  clear c10
                  obtain ⟨y315, hy315⟩ : ∃ y_ : List Int, y_ = (x7_2 ++ [Int.tmod (wrap64 (x8_2 + x6_1)) a0]) := ⟨_, rfl⟩
                  replace H : (salchowref36_Orders.l1 k2 a0 a1 x5_1 x6_1 y315 (wrap64 (x8_2 + 1))) = some r := by first | (rw [hy315]; with_reducible exact H) | (have H2_ := (Option.bind_some _ _).symm.trans H; rw [hy315]; with_reducible exact H2_) | (have H2_ := (Option.bind_some _ _).symm.trans H; with_reducible exact H2_) | with_reducible exact H | (rw [hy315]; exact H) | exact H
                  have Ny315 := Aside0.mk hy315
                  clear hy315
                  have H' := Aside0.mk H
                  clear H
                  go_wp2_with (first | ((with_reducible refine gate_builtin (b := .append) (xs := #[.tmp 21, .tmp 27]) rfl ?_); at_builtin; refine Kd.R_append (Kd.int .i64) (w0 := w) w.heap.size rfl (.tmp 21) (.tmp 27) 31 3 (.int .i64 0) 8 rfl Try.underlying31 info3 rfl (by decide) (by omega) u7 x7_2 (Int.tmod (wrap64 (x8_2 + x6_1)) a0) [.int .i64 (Int.tmod (wrap64 (x8_2 + x6_1)) a0)] (fun _ => True) (fun _ => False) rfl rfl ?aP (fun _ hk => hk.elim) ?aF ?aO ?aB ?aS ?aL ?_; (case aP => exact rfl); (case aB => exact (by repeat (first | (with_reducible first | exact HB.out | apply below_alloc | apply pw_below_drewN | apply below_drew1) | exact HB.out))); (case aF => exact (fun _ _ => trivial)); (case aO => exact (by (with_reducible repeat (first | apply Kd.R_alloc | apply Kd.R_drewN | apply Kd.R_drew)); exact HO_7.out)); (case aS => exact (below_size (by repeat (first | (with_reducible first | exact HB.out | apply below_alloc | apply pw_below_drewN | apply below_drew1) | exact HB.out)))); (case aL => have := LMc10.out; omega); intro v316 w11 ho hb hg hat; rw [← Ny315.out] at ho; have n0_ := Aside0.mk (Kd.S_after (ok := (fun _ => True)) (by (with_reducible repeat (first | apply Kd.S_alloc | apply Kd.S_drewN | apply Kd.S_drew)); exact Kd.S_mono HO_5.out (fun _ hk => ⟨trivial, hk⟩)) hg hat); have n1_ := Aside0.mk (hb); have n2_ := Aside0.mk (ho); clear HO_5; clear HB; clear HO_7; have HO_5 := n0_; have HB := n1_; have HO317 := n2_; clear n0_ n1_ n2_; clear ho hb hg hat))
                  go_roundg k2
                  case measure => have := HK1.out; have := HK2.out; omega
                  case rel => exact ⟨(y315), (wrap64 (x8_2 + 1)), (by first | rfl | (simp; done) | (simp [*]; done)), H', ⟨by have := HK1.out; have := HK2.out; omega⟩, ⟨by (with_reducible repeat (first | apply Kd.S_alloc | apply Kd.S_drewN | apply Kd.S_drew)); exact Kd.S_mono HO_5.out (fun _ hk => hk.2)⟩, ⟨by (with_reducible repeat (first | apply Kd.R_alloc | apply Kd.R_drewN | apply Kd.R_drew)); exact HO317.out⟩, ⟨by repeat (first | (with_reducible first | exact HB.out | apply below_alloc | apply pw_below_drewN | apply below_drew1) | exact HB.out)⟩⟩
                · rw [if_neg c10] at H
                  exact absurd H (by simp)
            · rw [if_neg c8] at H
              have c8b0 : decide (x8_2 < a0) = false := decide_eq_false c8
              clear c8
              by_cases c12 : x5_1.length < 5864062014805
              · rw [if_pos c12] at H
                have LMc12 := Aside0.mk c12
                clear c12
                obtain ⟨y318, hy318⟩ : ∃ y_ : List (List Int), y_ = (x5_1 ++ [x7_2]) := ⟨_, rfl⟩
                replace H : (salchowref36_Orders.l0 k2 a0 a1 y318 (wrap64 (x6_1 + 1))) = some r := by first | (rw [hy318]; with_reducible exact H) | (have H2_ := (Option.bind_some _ _).symm.trans H; rw [hy318]; with_reducible exact H2_) | (have H2_ := (Option.bind_some _ _).symm.trans H; with_reducible exact H2_) | with_reducible exact H | (rw [hy318]; exact H) | exact H
                have Ny318 := Aside0.mk hy318
                clear hy318
                have H' := Aside0.mk H
                clear H
                obtain ⟨Ao14, co14, eo14⟩ := Kd.R_slice HO_7.out
                subst eo14
                go_wp2_with (first | ((with_reducible refine gate_builtin (b := .append) (xs := #[.tmp 29, .tmp 31]) rfl ?_); at_builtin; refine Kd.S_append (Kd.slice 3 (Kd.int .i64)) (w0 := w) w.heap.size rfl (.tmp 29) (.tmp 31) 23 31 (.slice none 0 0) 24 rfl Try.underlying23 info31 rfl (by decide) (by omega) u5 x5_1 x7_2 [.slice Ao14 x7_2.length co14] (fun _ => True) (fun k_ => some k_ = (.slice Ao14 x7_2.length co14 : Value).ownBlock) rfl rfl ?aP (fun k_ hk_ => ((Kd.R_mono (ok' := fun k_ => ((fun _ => True)) k_ ∧ some k_ ≠ (u5 : Value).ownBlock) (Kd.R_apart' (HO_7.out) (Kd.S_typed HO_5.out) (by decide)) (fun k_ hk => ⟨trivial, hk.2⟩))).1 k_ hk_.symm) ?aF ?aO ?aB ?aS ?aL ?_; (case aP => exact Kd.M_row (Kd.R_mono (Kd.R_tight rfl (Kd.R_mono (ok' := fun k_ => ((fun _ => True)) k_ ∧ some k_ ≠ (u5 : Value).ownBlock) (Kd.R_apart' (HO_7.out) (Kd.S_typed HO_5.out) (by decide)) (fun k_ hk => ⟨trivial, hk.2⟩))) (fun _ h_ => h_))); (case aB => exact (by repeat (first | (with_reducible first | exact HB.out | apply below_alloc | apply pw_below_drewN | apply below_drew1) | exact HB.out))); (case aF => exact (fun _ _ => trivial)); (case aO => exact (by (with_reducible repeat (first | apply Kd.S_alloc | apply Kd.S_drewN | apply Kd.S_drew)); exact Kd.S_mono HO_5.out (fun k_ hk => ⟨trivial, fun e_ => hk e_⟩))); (case aS => exact (below_size (by repeat (first | (with_reducible first | exact HB.out | apply below_alloc | apply pw_below_drewN | apply below_drew1) | exact HB.out)))); (case aL => have := LMc12.out; omega); intro v319 w13 ho hb hg hat; rw [← Ny318.out] at ho; have n0_ := Aside0.mk (hb); have n1_ := Aside0.mk (ho); clear HB; clear HO_5; clear HO_7; have HB := n0_; have HO320 := n1_; clear n0_ n1_; clear ho hb hg hat))
                go_roundg k2
                case measure => have := HK1.out; have := HK2.out; omega
                case rel => exact ⟨(y318), (wrap64 (x6_1 + 1)), (by first | rfl | (simp; done) | (simp [*]; done)), H', ⟨by have := HK1.out; have := HK2.out; omega⟩, ⟨by (with_reducible repeat (first | apply Kd.S_alloc | apply Kd.S_drewN | apply Kd.S_drew)); exact HO320.out⟩, ⟨by repeat (first | (with_reducible first | exact HB.out | apply below_alloc | apply pw_below_drewN | apply below_drew1) | exact HB.out)⟩⟩
              · rw [if_neg c12] at H
                exact absurd H (by simp)
      · rw [if_neg c5] at H
        have c5b0 : decide (x6_1 < a1) = false := decide_eq_false c5
        clear c5
        obtain rfl := Option.some.inj H
        go_wp2
        go_ret
        exact ⟨_, by first | rfl | (simp [errW_none, errW_some] <;> rfl) | (simp [*, errW_none, errW_some] <;> rfl), by (with_reducible repeat (first | apply Kd.S_alloc | apply Kd.S_drewN | apply Kd.S_drew)); exact HO_5.out, by repeat (first | (with_reducible first | exact HB.out | apply below_alloc | apply pw_below_drewN | apply below_drew1) | exact HB.out)⟩

/-! ### salchowlaw36_RotationOrders: function 5 -/
mutual
def salchowlaw36_RotationOrders.j0 : Nat → Int → Int → List (List Int) → Int → Bool → Option (Bool)
  | 0, _, _, _, _, _ => none
  | k + 1, x0, x1, x5, x6, x31 => if x31 = true then (some (x6 == 1)) else (if x6 = 0 then ((salchowref36_Orders.f k x0 x1).bind fun t326 => ((salchowref36_SameRows.f k x5 t326).bind fun t329 => (salchowlaw36_RotationOrders.j1 k x0 x1 x5 (!t329)))) else (salchowlaw36_RotationOrders.j1 k x0 x1 x5 true))
def salchowlaw36_RotationOrders.j1 : Nat → Int → Int → List (List Int) → Bool → Option (Bool)
  | 0, _, _, _, _ => none
  | k + 1, x0, x1, x5, x43 => if x43 = true then (some false) else ((rotation_Positions.f k x5).bind fun bt330 => (if bt330.2 = 0 then (salchowlaw36_RotationOrders.j2 k x0 x1 bt330.1 ((bt330.1.length : Int) != x0)) else (salchowlaw36_RotationOrders.j2 k x0 x1 bt330.1 true)))
def salchowlaw36_RotationOrders.j2 : Nat → Int → Int → List Int → Bool → Option (Bool)
  | 0, _, _, _, _ => none
  | k + 1, x0, x1, x7, x56 => if x56 = true then (some false) else (salchowlaw36_RotationOrders.l0 k x0 x1 x7 1)
def salchowlaw36_RotationOrders.l0 : Nat → Int → Int → List Int → Int → Option (Bool)
  | 0, _, _, _, _ => none
  | k + 1, x0, x1, x7, x9 => if x9 < x0 then (if x0 = 0 then (none) else (if (Int.tmod x1 x0) = 0 then (if 0 ≤ x9 then (if x9 < (x7.length : Int) then (if 0 < (x7.length : Int) then (if (rd x7 x9) = (rd x7 0) then (salchowlaw36_RotationOrders.l0 k x0 x1 x7 (wrap64 (x9 + 1))) else (some false)) else (none)) else (none)) else (none)) else (salchowlaw36_RotationOrders.l0 k x0 x1 x7 (wrap64 (x9 + 1))))) else (some true)
end
def salchowlaw36_RotationOrders.f (k : Nat) (a0 : Int) (a1 : Int) : Option (Bool) := (salchowlaw36_awake.f k).bind fun t321 => (if t321 = true then ((rotation_Orders.f k a0 a1).bind fun bt322 => (if a0 < 1 then (salchowlaw36_RotationOrders.j0 k a0 a1 bt322.1 bt322.2 true) else (if a0 > 64 then (salchowlaw36_RotationOrders.j0 k a0 a1 bt322.1 bt322.2 true) else (if a1 < 1 then (salchowlaw36_RotationOrders.j0 k a0 a1 bt322.1 bt322.2 true) else (salchowlaw36_RotationOrders.j0 k a0 a1 bt322.1 bt322.2 (decide (a1 > 64))))))) else (some false))
theorem salchowlaw36_RotationOrders.mono_l : ∀ k, (∀ y0 y1 y2 y3 y4, LeO (salchowlaw36_RotationOrders.j0 k y0 y1 y2 y3 y4) (salchowlaw36_RotationOrders.j0 (k + 1) y0 y1 y2 y3 y4)) ∧ (∀ y0 y1 y2 y3, LeO (salchowlaw36_RotationOrders.j1 k y0 y1 y2 y3) (salchowlaw36_RotationOrders.j1 (k + 1) y0 y1 y2 y3)) ∧ (∀ y0 y1 y2 y3, LeO (salchowlaw36_RotationOrders.j2 k y0 y1 y2 y3) (salchowlaw36_RotationOrders.j2 (k + 1) y0 y1 y2 y3)) ∧ (∀ y0 y1 y2 y3, LeO (salchowlaw36_RotationOrders.l0 k y0 y1 y2 y3) (salchowlaw36_RotationOrders.l0 (k + 1) y0 y1 y2 y3))
  | 0 => ⟨fun _ _ _ _ _ r h => by simp [salchowlaw36_RotationOrders.j0] at h, fun _ _ _ _ r h => by simp [salchowlaw36_RotationOrders.j1] at h, fun _ _ _ _ r h => by simp [salchowlaw36_RotationOrders.j2] at h, fun _ _ _ _ r h => by simp [salchowlaw36_RotationOrders.l0] at h⟩
  | k + 1 => by
    obtain ⟨ih0, ih1, ih2, ih3⟩ := salchowlaw36_RotationOrders.mono_l k
    refine ⟨?_, ?_, ?_, ?_⟩
    · intro y0 y1 y2 y3 y4
      unfold salchowlaw36_RotationOrders.j0
      repeat' first
      | (with_reducible exact ih0 _ _ _ _ _)
      | (with_reducible exact ih1 _ _ _ _)
      | (with_reducible exact ih2 _ _ _ _)
      | (with_reducible exact ih3 _ _ _ _)
      | (with_reducible exact rotation_Orders.mono _ _ _)
      | (with_reducible exact rotation_Positions.mono _ _)
      | (with_reducible exact salchowlaw36_awake.mono _)
      | (with_reducible exact salchowref36_Orders.mono _ _ _)
      | (with_reducible exact salchowref36_SameRows.mono _ _ _)
      | (with_reducible exact LeO.refl _)
      | (with_reducible exact LeO.none _)
      | (with_reducible refine LeO.ite ?_ ?_)
      | (with_reducible refine LeO.bind ?_ (fun _ => ?_))
      | exact ih0 _ _ _ _ _
      | exact ih1 _ _ _ _
      | exact ih2 _ _ _ _
      | exact ih3 _ _ _ _
      | exact rotation_Orders.mono _ _ _
      | exact rotation_Positions.mono _ _
      | exact salchowlaw36_awake.mono _
      | exact salchowref36_Orders.mono _ _ _
      | exact salchowref36_SameRows.mono _ _ _
      | exact LeO.none _
      | refine LeO.ite ?_ ?_
      | refine LeO.bind ?_ (fun _ => ?_)
    · intro y0 y1 y2 y3
      unfold salchowlaw36_RotationOrders.j1
      repeat' first
      | (with_reducible exact ih0 _ _ _ _ _)
      | (with_reducible exact ih1 _ _ _ _)
      | (with_reducible exact ih2 _ _ _ _)
      | (with_reducible exact ih3 _ _ _ _)
      | (with_reducible exact rotation_Orders.mono _ _ _)
      | (with_reducible exact rotation_Positions.mono _ _)
      | (with_reducible exact salchowlaw36_awake.mono _)
      | (with_reducible exact salchowref36_Orders.mono _ _ _)
      | (with_reducible exact salchowref36_SameRows.mono _ _ _)
      | (with_reducible exact LeO.refl _)
      | (with_reducible exact LeO.none _)
      | (with_reducible refine LeO.ite ?_ ?_)
      | (with_reducible refine LeO.bind ?_ (fun _ => ?_))
      | exact ih0 _ _ _ _ _
      | exact ih1 _ _ _ _
      | exact ih2 _ _ _ _
      | exact ih3 _ _ _ _
      | exact rotation_Orders.mono _ _ _
      | exact rotation_Positions.mono _ _
      | exact salchowlaw36_awake.mono _
      | exact salchowref36_Orders.mono _ _ _
      | exact salchowref36_SameRows.mono _ _ _
      | exact LeO.none _
      | refine LeO.ite ?_ ?_
      | refine LeO.bind ?_ (fun _ => ?_)
    · intro y0 y1 y2 y3
      unfold salchowlaw36_RotationOrders.j2
      repeat' first
      | (with_reducible exact ih0 _ _ _ _ _)
      | (with_reducible exact ih1 _ _ _ _)
      | (with_reducible exact ih2 _ _ _ _)
      | (with_reducible exact ih3 _ _ _ _)
      | (with_reducible exact rotation_Orders.mono _ _ _)
      | (with_reducible exact rotation_Positions.mono _ _)
      | (with_reducible exact salchowlaw36_awake.mono _)
      | (with_reducible exact salchowref36_Orders.mono _ _ _)
      | (with_reducible exact salchowref36_SameRows.mono _ _ _)
      | (with_reducible exact LeO.refl _)
      | (with_reducible exact LeO.none _)
      | (with_reducible refine LeO.ite ?_ ?_)
      | (with_reducible refine LeO.bind ?_ (fun _ => ?_))
      | exact ih0 _ _ _ _ _
      | exact ih1 _ _ _ _
      | exact ih2 _ _ _ _
      | exact ih3 _ _ _ _
      | exact rotation_Orders.mono _ _ _
      | exact rotation_Positions.mono _ _
      | exact salchowlaw36_awake.mono _
      | exact salchowref36_Orders.mono _ _ _
      | exact salchowref36_SameRows.mono _ _ _
      | exact LeO.none _
      | refine LeO.ite ?_ ?_
      | refine LeO.bind ?_ (fun _ => ?_)
    · intro y0 y1 y2 y3
      unfold salchowlaw36_RotationOrders.l0
      repeat' first
      | (with_reducible exact ih0 _ _ _ _ _)
      | (with_reducible exact ih1 _ _ _ _)
      | (with_reducible exact ih2 _ _ _ _)
      | (with_reducible exact ih3 _ _ _ _)
      | (with_reducible exact rotation_Orders.mono _ _ _)
      | (with_reducible exact rotation_Positions.mono _ _)
      | (with_reducible exact salchowlaw36_awake.mono _)
      | (with_reducible exact salchowref36_Orders.mono _ _ _)
      | (with_reducible exact salchowref36_SameRows.mono _ _ _)
      | (with_reducible exact LeO.refl _)
      | (with_reducible exact LeO.none _)
      | (with_reducible refine LeO.ite ?_ ?_)
      | (with_reducible refine LeO.bind ?_ (fun _ => ?_))
      | exact ih0 _ _ _ _ _
      | exact ih1 _ _ _ _
      | exact ih2 _ _ _ _
      | exact ih3 _ _ _ _
      | exact rotation_Orders.mono _ _ _
      | exact rotation_Positions.mono _ _
      | exact salchowlaw36_awake.mono _
      | exact salchowref36_Orders.mono _ _ _
      | exact salchowref36_SameRows.mono _ _ _
      | exact LeO.none _
      | refine LeO.ite ?_ ?_
      | refine LeO.bind ?_ (fun _ => ?_)
theorem salchowlaw36_RotationOrders.mono : ∀ a0 a1 k, LeO (salchowlaw36_RotationOrders.f k a0 a1) (salchowlaw36_RotationOrders.f (k + 1) a0 a1) := by
  intro a0 a1 k
  obtain ⟨ih0, ih1, ih2, ih3⟩ := salchowlaw36_RotationOrders.mono_l k
  unfold salchowlaw36_RotationOrders.f
  repeat' first
      | (with_reducible exact ih0 _ _ _ _ _)
      | (with_reducible exact ih1 _ _ _ _)
      | (with_reducible exact ih2 _ _ _ _)
      | (with_reducible exact ih3 _ _ _ _)
      | (with_reducible exact rotation_Orders.mono _ _ _)
      | (with_reducible exact rotation_Positions.mono _ _)
      | (with_reducible exact salchowlaw36_awake.mono _)
      | (with_reducible exact salchowref36_Orders.mono _ _ _)
      | (with_reducible exact salchowref36_SameRows.mono _ _ _)
      | (with_reducible exact LeO.refl _)
      | (with_reducible exact LeO.none _)
      | (with_reducible refine LeO.ite ?_ ?_)
      | (with_reducible refine LeO.bind ?_ (fun _ => ?_))
      | exact ih0 _ _ _ _ _
      | exact ih1 _ _ _ _
      | exact ih2 _ _ _ _
      | exact ih3 _ _ _ _
      | exact rotation_Orders.mono _ _ _
      | exact rotation_Positions.mono _ _
      | exact salchowlaw36_awake.mono _
      | exact salchowref36_Orders.mono _ _ _
      | exact salchowref36_SameRows.mono _ _ _
      | exact LeO.none _
      | refine LeO.ite ?_ ?_
      | refine LeO.bind ?_ (fun _ => ?_)
set_option maxHeartbeats 8000000 in
set_option maxRecDepth 100000 in
theorem salchowlaw36_RotationOrders.calls (k : Nat) (a0 : Int) (a1 : Int) (r : Bool) (w : World) (h : salchowlaw36_RotationOrders.f k a0 a1 = some r) :
    Calls Try.prog 5 #[.int .i64 a0, .int .i64 a1] w fun e w' => e = .returned (.bool r) ∧ Below w.heap.size w w' := by
  have HB := Aside0.mk (Below.refl w.heap.size w)
  have H : ((salchowlaw36_awake.f k).bind fun t321 => (if t321 = true then ((rotation_Orders.f k a0 a1).bind fun bt322 => (if a0 < 1 then (salchowlaw36_RotationOrders.j0 k a0 a1 bt322.1 bt322.2 true) else (if a0 > 64 then (salchowlaw36_RotationOrders.j0 k a0 a1 bt322.1 bt322.2 true) else (if a1 < 1 then (salchowlaw36_RotationOrders.j0 k a0 a1 bt322.1 bt322.2 true) else (salchowlaw36_RotationOrders.j0 k a0 a1 bt322.1 bt322.2 (decide (a1 > 64))))))) else (some false))) = some r := h
  clear h
  replace H := Option.bind_eq_some_iff.mp H
  obtain ⟨t321, A30, H⟩ := H
  replace H : (if t321 = true then ((rotation_Orders.f k a0 a1).bind fun bt322 => (if a0 < 1 then (salchowlaw36_RotationOrders.j0 k a0 a1 bt322.1 bt322.2 true) else (if a0 > 64 then (salchowlaw36_RotationOrders.j0 k a0 a1 bt322.1 bt322.2 true) else (if a1 < 1 then (salchowlaw36_RotationOrders.j0 k a0 a1 bt322.1 bt322.2 true) else (salchowlaw36_RotationOrders.j0 k a0 a1 bt322.1 bt322.2 (decide (a1 > 64))))))) else (some false)) = some r := H
  have A3 := Aside0.mk A30
  clear A30
  by_cases c4 : t321 = true
  · subst c4
    have H1 : ((rotation_Orders.f k a0 a1).bind fun bt322 => (if a0 < 1 then (salchowlaw36_RotationOrders.j0 k a0 a1 bt322.1 bt322.2 true) else (if a0 > 64 then (salchowlaw36_RotationOrders.j0 k a0 a1 bt322.1 bt322.2 true) else (if a1 < 1 then (salchowlaw36_RotationOrders.j0 k a0 a1 bt322.1 bt322.2 true) else (salchowlaw36_RotationOrders.j0 k a0 a1 bt322.1 bt322.2 (decide (a1 > 64))))))) = some r := by rw [if_pos rfl] at H; exact H
    clear H
    have H := H1
    clear H1
    replace H := Option.bind_eq_some_iff.mp H
    obtain ⟨⟨t322, t323⟩, A50, H⟩ := H
    replace H : (if a0 < 1 then (salchowlaw36_RotationOrders.j0 k a0 a1 t322 t323 true) else (if a0 > 64 then (salchowlaw36_RotationOrders.j0 k a0 a1 t322 t323 true) else (if a1 < 1 then (salchowlaw36_RotationOrders.j0 k a0 a1 t322 t323 true) else (salchowlaw36_RotationOrders.j0 k a0 a1 t322 t323 (decide (a1 > 64)))))) = some r := H
    have A5 := Aside0.mk A50
    clear A50
    have HC6 := Aside0.mk H
    clear H
    go_enter Try.func5, Try.ntmps5
    go_upto_region 4 with (first | (go_at_call 13; (with_reducible refine (salchowlaw36_awake.calls k  true _ A3.out).mono ?_); rintro e w7 ⟨rfl, hb⟩; have n0_ := Aside0.mk (below_step (by repeat (first | (with_reducible first | exact HB.out | apply below_alloc | apply pw_below_drewN | apply below_drew1) | exact HB.out)) hb); clear HB; have HB := n0_; clear n0_; (try clear hb); (try clear hb2); (try clear hk); (try clear hi)) | (go_at_call 20; (with_reducible refine (rotation_Orders.calls k a0 a1 t322 t323 _ A5.out).mono ?_); rintro e w8 ⟨v324, rfl, ho0, hb⟩; have n0_ := Aside0.mk (Kd.S_lower ho0 (below_size (by repeat (first | (with_reducible first | exact HB.out | apply below_alloc | apply pw_below_drewN | apply below_drew1) | exact HB.out)))); have n1_ := Aside0.mk (below_step (by repeat (first | (with_reducible first | exact HB.out | apply below_alloc | apply pw_below_drewN | apply below_drew1) | exact HB.out)) hb); clear HB; have HO325 := n0_; have HB := n1_; clear n0_ n1_; (try clear hb); (try clear hb2); (try clear hk); (try clear hi); (try clear ho0)))
    repeat (go_quiet (first | (go_at_call 13; (with_reducible refine (salchowlaw36_awake.calls k  true _ A3.out).mono ?_); rintro e w7 ⟨rfl, hb⟩; have n0_ := Aside0.mk (below_step (by repeat (first | (with_reducible first | exact HB.out | apply below_alloc | apply pw_below_drewN | apply below_drew1) | exact HB.out)) hb); clear HB; have HB := n0_; clear n0_; (try clear hb); (try clear hb2); (try clear hk); (try clear hi)) | (go_at_call 20; (with_reducible refine (rotation_Orders.calls k a0 a1 t322 t323 _ A5.out).mono ?_); rintro e w8 ⟨v324, rfl, ho0, hb⟩; have n0_ := Aside0.mk (Kd.S_lower ho0 (below_size (by repeat (first | (with_reducible first | exact HB.out | apply below_alloc | apply pw_below_drewN | apply below_drew1) | exact HB.out)))); have n1_ := Aside0.mk (below_step (by repeat (first | (with_reducible first | exact HB.out | apply below_alloc | apply pw_below_drewN | apply below_drew1) | exact HB.out)) hb); clear HB; have HO325 := n0_; have HB := n1_; clear n0_ n1_; (try clear hb); (try clear hb2); (try clear hk); (try clear hi); (try clear ho0))); go_upto_region 4 with (first | (go_at_call 13; (with_reducible refine (salchowlaw36_awake.calls k  true _ A3.out).mono ?_); rintro e w7 ⟨rfl, hb⟩; have n0_ := Aside0.mk (below_step (by repeat (first | (with_reducible first | exact HB.out | apply below_alloc | apply pw_below_drewN | apply below_drew1) | exact HB.out)) hb); clear HB; have HB := n0_; clear n0_; (try clear hb); (try clear hb2); (try clear hk); (try clear hi)) | (go_at_call 20; (with_reducible refine (rotation_Orders.calls k a0 a1 t322 t323 _ A5.out).mono ?_); rintro e w8 ⟨v324, rfl, ho0, hb⟩; have n0_ := Aside0.mk (Kd.S_lower ho0 (below_size (by repeat (first | (with_reducible first | exact HB.out | apply below_alloc | apply pw_below_drewN | apply below_drew1) | exact HB.out)))); have n1_ := Aside0.mk (below_step (by repeat (first | (with_reducible first | exact HB.out | apply below_alloc | apply pw_below_drewN | apply below_drew1) | exact HB.out)) hb); clear HB; have HO325 := n0_; have HB := n1_; clear n0_ n1_; (try clear hb); (try clear hb2); (try clear hk); (try clear hi); (try clear ho0))))
    (try simp only [Act.put, List.setIfInBounds_toArray, List.set_cons_zero, List.set_cons_succ])
    go_cut [31] (fun v31 wc => ∃ (kq : Nat) (x31_5 : Bool), v31 = .bool x31_5 ∧ Aside0 (salchowlaw36_RotationOrders.j0 kq a0 a1 t322 t323 x31_5 = some r) ∧ Aside0 (kq ≤ k) ∧ Aside0 (Kd.S (Kd.slice 3 (Kd.int .i64)) 31 wc w.heap.size (fun _ => True) v324 t322) ∧ Aside0 (Below w.heap.size w wc))
    case first =>
      have H := HC6.out
      clear HC6
      by_cases c9 : a0 < 1
      · rw [if_pos c9] at H
        have c9b0 : decide (a0 < 1) = true := decide_eq_true c9
        clear c9
        (first | rw [c9b0] | (simp only [i64_w, i32_w]; rw [c9b0]) | skip)
        have H' := Aside0.mk H
        clear H
        go_wp2
        repeat (go_quiet (fail); try go_wp2)
        go_meet
        case rel => exact ⟨_, (true), (by first | rfl | (simp; done) | (simp [*]; done)), H', ⟨by first | omega | exact Nat.le_refl _⟩, ⟨by (with_reducible repeat (first | apply Kd.S_alloc | apply Kd.S_drewN | apply Kd.S_drew)); exact HO325.out⟩, ⟨by repeat (first | (with_reducible first | exact HB.out | apply below_alloc | apply pw_below_drewN | apply below_drew1) | exact HB.out)⟩⟩
      · rw [if_neg c9] at H
        have c9b0 : decide (a0 < 1) = false := decide_eq_false c9
        clear c9
        (first | rw [c9b0] | (simp only [i64_w, i32_w]; rw [c9b0]) | skip)
        by_cases c10 : a0 > 64
        · rw [if_pos c10] at H
          have c10b0 : decide (64 < a0) = true := decide_eq_true c10
          clear c10
          have H' := Aside0.mk H
          clear H
          go_wp2
          repeat (go_quiet (fail); try go_wp2)
          go_meet
          case rel => exact ⟨_, (true), (by first | rfl | (simp; done) | (simp [*]; done)), H', ⟨by first | omega | exact Nat.le_refl _⟩, ⟨by (with_reducible repeat (first | apply Kd.S_alloc | apply Kd.S_drewN | apply Kd.S_drew)); exact HO325.out⟩, ⟨by repeat (first | (with_reducible first | exact HB.out | apply below_alloc | apply pw_below_drewN | apply below_drew1) | exact HB.out)⟩⟩
        · rw [if_neg c10] at H
          have c10b0 : decide (64 < a0) = false := decide_eq_false c10
          clear c10
          by_cases c11 : a1 < 1
          · rw [if_pos c11] at H
            have c11b0 : decide (a1 < 1) = true := decide_eq_true c11
            clear c11
            have H' := Aside0.mk H
            clear H
            go_wp2
            repeat (go_quiet (fail); try go_wp2)
            go_meet
            case rel => exact ⟨_, (true), (by first | rfl | (simp; done) | (simp [*]; done)), H', ⟨by first | omega | exact Nat.le_refl _⟩, ⟨by (with_reducible repeat (first | apply Kd.S_alloc | apply Kd.S_drewN | apply Kd.S_drew)); exact HO325.out⟩, ⟨by repeat (first | (with_reducible first | exact HB.out | apply below_alloc | apply pw_below_drewN | apply below_drew1) | exact HB.out)⟩⟩
          · rw [if_neg c11] at H
            have c11b0 : decide (a1 < 1) = false := decide_eq_false c11
            clear c11
            have H' := Aside0.mk H
            clear H
            go_wp2
            repeat (go_quiet (fail); try go_wp2)
            go_meet
            case rel => exact ⟨_, (decide (a1 > 64)), (by first | rfl | (simp; done) | (simp [*]; done)), H', ⟨by first | omega | exact Nat.le_refl _⟩, ⟨by (with_reducible repeat (first | apply Kd.S_alloc | apply Kd.S_drewN | apply Kd.S_drew)); exact HO325.out⟩, ⟨by repeat (first | (with_reducible first | exact HB.out | apply below_alloc | apply pw_below_drewN | apply below_drew1) | exact HB.out)⟩⟩
    case rest =>
      clear HC6
      try clear c1
      try clear p2
      try clear c4
      try clear c5
      try clear c9
      try clear c9b0
      try clear c10
      try clear c10b0
      try clear c11
      try clear c11b0
      obtain ⟨kq, x31_5, rfl, HA, HJ5, HO_5, HB⟩ := hcut
      cases kq with
      | zero => exact absurd HA.out (by simp [salchowlaw36_RotationOrders.j0])
      | succ kj5 =>
        have H := HA.out
        clear HA
        simp only [salchowlaw36_RotationOrders.j0] at H
        by_cases c12 : x31_5 = true
        · subst c12
          have H1 : (some (t323 == 1)) = some r := by rw [if_pos rfl] at H; exact H
          clear H
          have H := H1
          clear H1
          obtain rfl := Option.some.inj H
          go_wp2
          repeat (go_quiet (fail); try go_wp2)
          go_ret
          exact ⟨by first | rfl | (simp [errW_none, errW_some] <;> rfl) | (simp [*, errW_none, errW_some] <;> rfl), by repeat (first | (with_reducible first | exact HB.out | apply below_alloc | apply pw_below_drewN | apply below_drew1) | exact HB.out)⟩
        · replace c12 := Bool.eq_false_iff.mpr c12
          subst c12
          have H1 : (if t323 = 0 then ((salchowref36_Orders.f kj5 a0 a1).bind fun t326 => ((salchowref36_SameRows.f kj5 t322 t326).bind fun t329 => (salchowlaw36_RotationOrders.j1 kj5 a0 a1 t322 (!t329)))) else (salchowlaw36_RotationOrders.j1 kj5 a0 a1 t322 true)) = some r := by rw [if_neg (show ¬ (false = true) by decide)] at H; exact H
          clear H
          have H := H1
          clear H1
          have HC13 := Aside0.mk H
          clear H
          go_upto_region 6 with (fail)
          repeat (go_quiet (fail); go_upto_region 6 with (fail))
          go_cut [43] (fun v43 wc => ∃ (kq : Nat) (x43_12 : Bool), v43 = .bool x43_12 ∧ Aside0 (salchowlaw36_RotationOrders.j1 kq a0 a1 t322 x43_12 = some r) ∧ Aside0 (kq ≤ kj5) ∧ Aside0 (Kd.S (Kd.slice 3 (Kd.int .i64)) 31 wc w.heap.size (fun _ => True) v324 t322) ∧ Aside0 (Below w.heap.size w wc))
          case first =>
            have H := HC13.out
            clear HC13
            by_cases c14 : t323 = 0
            · rw [if_pos c14] at H
              have c14b0 : (t323 == 0) = true := beq_iff_eq.mpr c14
              have c14b1 : (t323 != 0) = false := bne_eq_false_iff_eq.mpr c14
              clear c14
              (first | rw [c14b0] | (simp only [i64_w, i32_w]; rw [c14b0]) | skip)
              replace H := Option.bind_eq_some_iff.mp H
              obtain ⟨t326, A150, H⟩ := H
              replace H : ((salchowref36_SameRows.f kj5 t322 t326).bind fun t329 => (salchowlaw36_RotationOrders.j1 kj5 a0 a1 t322 (!t329))) = some r := H
              have A15 := Aside0.mk A150
              clear A150
              replace H := Option.bind_eq_some_iff.mp H
              obtain ⟨t329, A160, H⟩ := H
              replace H : (salchowlaw36_RotationOrders.j1 kj5 a0 a1 t322 (!t329)) = some r := H
              have A16 := Aside0.mk A160
              clear A160
              have H' := Aside0.mk H
              clear H
              go_wp2_with (first | (go_at_call 21; (with_reducible refine (salchowref36_Orders.calls kj5 a0 a1 t326 _ A15.out).mono ?_); rintro e w17 ⟨v327, rfl, ho0, hb⟩; have n0_ := Aside0.mk (Kd.S_elder' (by (with_reducible repeat (first | apply Kd.S_alloc | apply Kd.S_drewN | apply Kd.S_drew)); exact HO_5.out) (Kd.S_base ho0) hb); have n1_ := Aside0.mk (Kd.S_lower (Kd.S_new' ho0 (Kd.S_lt (by (with_reducible repeat (first | apply Kd.S_alloc | apply Kd.S_drewN | apply Kd.S_drew)); exact HO_5.out))) (below_size (by repeat (first | (with_reducible first | exact HB.out | apply below_alloc | apply pw_below_drewN | apply below_drew1) | exact HB.out)))); have n2_ := Aside0.mk (below_step (by repeat (first | (with_reducible first | exact HB.out | apply below_alloc | apply pw_below_drewN | apply below_drew1) | exact HB.out)) hb); clear HO_5; clear HB; have HO_5 := n0_; have HO328 := n1_; have HB := n2_; clear n0_ n1_ n2_; (try clear hb); (try clear hb2); (try clear hk); (try clear hi); (try clear ho0); obtain ⟨Ao18, co18, eo18⟩ := Kd.S_slice HO_5.out; subst eo18; obtain ⟨Ao19, co19, eo19⟩ := Kd.S_slice HO328.out; subst eo19) | (go_at_call 16; (with_reducible refine (salchowref36_SameRows.calls kj5 _ _ t322 _ _ t326 t329 _ ?side1 ?side2 ?side3 ?side4 A16.out).mono ?_); (case side1 => repeat (first | exact (Kd.S_reads' HO_5.out).2.2 | (with_reducible refine Kd.C_alloc ?_ _) | (with_reducible refine Kd.C_drewN ?_ _) | (with_reducible refine Kd.C_drew ?_))); (case side2 => exact (Kd.S_reads' HO_5.out).2.1); (case side3 => repeat (first | exact (Kd.S_reads' HO328.out).2.2 | (with_reducible refine Kd.C_alloc ?_ _) | (with_reducible refine Kd.C_drewN ?_ _) | (with_reducible refine Kd.C_drew ?_))); (case side4 => exact (Kd.S_reads' HO328.out).2.1); rintro e w' ⟨rfl, ⟨nd, rfl⟩⟩; (try first | exact ⟨rfl, _, World.drewN_drewN _ _ _⟩ | exact ⟨rfl, _, Eq.trans (World.drewN_drewN _ _ _) (congrArg (World.drewN _) (Nat.add_assoc _ _ _))⟩)))
              repeat (go_quiet (first | (go_at_call 21; (with_reducible refine (salchowref36_Orders.calls kj5 a0 a1 t326 _ A15.out).mono ?_); rintro e w17 ⟨v327, rfl, ho0, hb⟩; have n0_ := Aside0.mk (Kd.S_elder' (by (with_reducible repeat (first | apply Kd.S_alloc | apply Kd.S_drewN | apply Kd.S_drew)); exact HO_5.out) (Kd.S_base ho0) hb); have n1_ := Aside0.mk (Kd.S_lower (Kd.S_new' ho0 (Kd.S_lt (by (with_reducible repeat (first | apply Kd.S_alloc | apply Kd.S_drewN | apply Kd.S_drew)); exact HO_5.out))) (below_size (by repeat (first | (with_reducible first | exact HB.out | apply below_alloc | apply pw_below_drewN | apply below_drew1) | exact HB.out)))); have n2_ := Aside0.mk (below_step (by repeat (first | (with_reducible first | exact HB.out | apply below_alloc | apply pw_below_drewN | apply below_drew1) | exact HB.out)) hb); clear HO_5; clear HB; have HO_5 := n0_; have HO328 := n1_; have HB := n2_; clear n0_ n1_ n2_; (try clear hb); (try clear hb2); (try clear hk); (try clear hi); (try clear ho0); obtain ⟨Ao18, co18, eo18⟩ := Kd.S_slice HO_5.out; subst eo18; obtain ⟨Ao19, co19, eo19⟩ := Kd.S_slice HO328.out; subst eo19) | (go_at_call 16; (with_reducible refine (salchowref36_SameRows.calls kj5 _ _ t322 _ _ t326 t329 _ ?side1 ?side2 ?side3 ?side4 A16.out).mono ?_); (case side1 => repeat (first | exact (Kd.S_reads' HO_5.out).2.2 | (with_reducible refine Kd.C_alloc ?_ _) | (with_reducible refine Kd.C_drewN ?_ _) | (with_reducible refine Kd.C_drew ?_))); (case side2 => exact (Kd.S_reads' HO_5.out).2.1); (case side3 => repeat (first | exact (Kd.S_reads' HO328.out).2.2 | (with_reducible refine Kd.C_alloc ?_ _) | (with_reducible refine Kd.C_drewN ?_ _) | (with_reducible refine Kd.C_drew ?_))); (case side4 => exact (Kd.S_reads' HO328.out).2.1); rintro e w' ⟨rfl, ⟨nd, rfl⟩⟩; (try first | exact ⟨rfl, _, World.drewN_drewN _ _ _⟩ | exact ⟨rfl, _, Eq.trans (World.drewN_drewN _ _ _) (congrArg (World.drewN _) (Nat.add_assoc _ _ _))⟩))); try go_wp2_with (first | (go_at_call 21; (with_reducible refine (salchowref36_Orders.calls kj5 a0 a1 t326 _ A15.out).mono ?_); rintro e w17 ⟨v327, rfl, ho0, hb⟩; have n0_ := Aside0.mk (Kd.S_elder' (by (with_reducible repeat (first | apply Kd.S_alloc | apply Kd.S_drewN | apply Kd.S_drew)); exact HO_5.out) (Kd.S_base ho0) hb); have n1_ := Aside0.mk (Kd.S_lower (Kd.S_new' ho0 (Kd.S_lt (by (with_reducible repeat (first | apply Kd.S_alloc | apply Kd.S_drewN | apply Kd.S_drew)); exact HO_5.out))) (below_size (by repeat (first | (with_reducible first | exact HB.out | apply below_alloc | apply pw_below_drewN | apply below_drew1) | exact HB.out)))); have n2_ := Aside0.mk (below_step (by repeat (first | (with_reducible first | exact HB.out | apply below_alloc | apply pw_below_drewN | apply below_drew1) | exact HB.out)) hb); clear HO_5; clear HB; have HO_5 := n0_; have HO328 := n1_; have HB := n2_; clear n0_ n1_ n2_; (try clear hb); (try clear hb2); (try clear hk); (try clear hi); (try clear ho0); obtain ⟨Ao18, co18, eo18⟩ := Kd.S_slice HO_5.out; subst eo18; obtain ⟨Ao19, co19, eo19⟩ := Kd.S_slice HO328.out; subst eo19) | (go_at_call 16; (with_reducible refine (salchowref36_SameRows.calls kj5 _ _ t322 _ _ t326 t329 _ ?side1 ?side2 ?side3 ?side4 A16.out).mono ?_); (case side1 => repeat (first | exact (Kd.S_reads' HO_5.out).2.2 | (with_reducible refine Kd.C_alloc ?_ _) | (with_reducible refine Kd.C_drewN ?_ _) | (with_reducible refine Kd.C_drew ?_))); (case side2 => exact (Kd.S_reads' HO_5.out).2.1); (case side3 => repeat (first | exact (Kd.S_reads' HO328.out).2.2 | (with_reducible refine Kd.C_alloc ?_ _) | (with_reducible refine Kd.C_drewN ?_ _) | (with_reducible refine Kd.C_drew ?_))); (case side4 => exact (Kd.S_reads' HO328.out).2.1); rintro e w' ⟨rfl, ⟨nd, rfl⟩⟩; (try first | exact ⟨rfl, _, World.drewN_drewN _ _ _⟩ | exact ⟨rfl, _, Eq.trans (World.drewN_drewN _ _ _) (congrArg (World.drewN _) (Nat.add_assoc _ _ _))⟩))))
              go_meet
              case rel => exact ⟨_, (!t329), (by first | rfl | (simp; done) | (simp [*]; done)), H', ⟨by have := HJ5.out; first | omega | exact Nat.le_refl _⟩, ⟨by (with_reducible repeat (first | apply Kd.S_alloc | apply Kd.S_drewN | apply Kd.S_drew)); exact Kd.S_mono HO_5.out (fun _ hk => trivial)⟩, ⟨by repeat (first | (with_reducible first | exact HB.out | apply below_alloc | apply pw_below_drewN | apply below_drew1) | exact HB.out)⟩⟩
            · rw [if_neg c14] at H
              have c14b0 : (t323 == 0) = false := beq_eq_false_iff_ne.mpr c14
              have c14b1 : (t323 != 0) = true := bne_iff_ne.mpr c14
              (first | rw [c14b0] | (simp only [i64_w, i32_w]; rw [c14b0]) | skip)
              have H' := Aside0.mk H
              clear H
              go_wp2
              repeat (go_quiet (fail); try go_wp2)
              go_meet
              case rel => exact ⟨_, (true), (by first | rfl | (simp; done) | (simp [*]; done)), H', ⟨by have := HJ5.out; first | omega | exact Nat.le_refl _⟩, ⟨by (with_reducible repeat (first | apply Kd.S_alloc | apply Kd.S_drewN | apply Kd.S_drew)); exact HO_5.out⟩, ⟨by repeat (first | (with_reducible first | exact HB.out | apply below_alloc | apply pw_below_drewN | apply below_drew1) | exact HB.out)⟩⟩
          case rest =>
            clear HC13
            try clear c1
            try clear p2
            try clear c4
            try clear c5
            try clear c9
            try clear c9b0
            try clear c10
            try clear c10b0
            try clear c11
            try clear c11b0
            try clear c12
            try clear c14
            try clear c14b0
            try clear c14b1
            try clear p2
            obtain ⟨kq, x43_12, rfl, HA, HJ12, HO_5, HB⟩ := hcut
            cases kq with
            | zero => exact absurd HA.out (by simp [salchowlaw36_RotationOrders.j1])
            | succ kj12 =>
              have H := HA.out
              clear HA
              simp only [salchowlaw36_RotationOrders.j1] at H
              by_cases c20 : x43_12 = true
              · subst c20
                have H1 : (some false) = some r := by rw [if_pos rfl] at H; exact H
                clear H
                have H := H1
                clear H1
                obtain rfl := Option.some.inj H
                go_wp2
                repeat (go_quiet (fail); try go_wp2)
                go_ret
                exact ⟨by first | rfl | (simp [errW_none, errW_some] <;> rfl) | (simp [*, errW_none, errW_some] <;> rfl), by repeat (first | (with_reducible first | exact HB.out | apply below_alloc | apply pw_below_drewN | apply below_drew1) | exact HB.out)⟩
              · replace c20 := Bool.eq_false_iff.mpr c20
                subst c20
                have H1 : ((rotation_Positions.f kj12 t322).bind fun bt330 => (if bt330.2 = 0 then (salchowlaw36_RotationOrders.j2 kj12 a0 a1 bt330.1 ((bt330.1.length : Int) != a0)) else (salchowlaw36_RotationOrders.j2 kj12 a0 a1 bt330.1 true))) = some r := by rw [if_neg (show ¬ (false = true) by decide)] at H; exact H
                clear H
                have H := H1
                clear H1
                replace H := Option.bind_eq_some_iff.mp H
                obtain ⟨⟨t330, t331⟩, A210, H⟩ := H
                replace H : (if t331 = 0 then (salchowlaw36_RotationOrders.j2 kj12 a0 a1 t330 ((t330.length : Int) != a0)) else (salchowlaw36_RotationOrders.j2 kj12 a0 a1 t330 true)) = some r := H
                have A21 := Aside0.mk A210
                clear A210
                have HC22 := Aside0.mk H
                clear H
                obtain ⟨Ao23, co23, eo23⟩ := Kd.S_slice HO_5.out
                subst eo23
                go_upto_region 9 with (first | (go_at_call 22; (with_reducible refine (rotation_Positions.calls kj12 _ _ t322 t330 t331 _ ?side1 ?side2 A21.out).mono ?_); (case side1 => repeat (first | exact (Kd.S_reads' HO_5.out).2.2 | (with_reducible refine Kd.C_alloc ?_ _) | (with_reducible refine Kd.C_drewN ?_ _) | (with_reducible refine Kd.C_drew ?_))); (case side2 => exact (Kd.S_reads' HO_5.out).2.1); rintro e w24 ⟨v332, rfl, ho0, hb⟩; have n0_ := Aside0.mk (Kd.S_elder' (by (with_reducible repeat (first | apply Kd.S_alloc | apply Kd.S_drewN | apply Kd.S_drew)); exact HO_5.out) (Kd.R_base ho0) hb); have n1_ := Aside0.mk (Kd.R_lower ho0 (below_size (by repeat (first | (with_reducible first | exact HB.out | apply below_alloc | apply pw_below_drewN | apply below_drew1) | exact HB.out)))); have n2_ := Aside0.mk (below_step (by repeat (first | (with_reducible first | exact HB.out | apply below_alloc | apply pw_below_drewN | apply below_drew1) | exact HB.out)) hb); clear HO_5; clear HB; have HO_5 := n0_; have HO333 := n1_; have HB := n2_; clear n0_ n1_ n2_; (try clear hb); (try clear hb2); (try clear hk); (try clear hi); (try clear ho0)))
                repeat (go_quiet (first | (go_at_call 22; (with_reducible refine (rotation_Positions.calls kj12 _ _ t322 t330 t331 _ ?side1 ?side2 A21.out).mono ?_); (case side1 => repeat (first | exact (Kd.S_reads' HO_5.out).2.2 | (with_reducible refine Kd.C_alloc ?_ _) | (with_reducible refine Kd.C_drewN ?_ _) | (with_reducible refine Kd.C_drew ?_))); (case side2 => exact (Kd.S_reads' HO_5.out).2.1); rintro e w24 ⟨v332, rfl, ho0, hb⟩; have n0_ := Aside0.mk (Kd.S_elder' (by (with_reducible repeat (first | apply Kd.S_alloc | apply Kd.S_drewN | apply Kd.S_drew)); exact HO_5.out) (Kd.R_base ho0) hb); have n1_ := Aside0.mk (Kd.R_lower ho0 (below_size (by repeat (first | (with_reducible first | exact HB.out | apply below_alloc | apply pw_below_drewN | apply below_drew1) | exact HB.out)))); have n2_ := Aside0.mk (below_step (by repeat (first | (with_reducible first | exact HB.out | apply below_alloc | apply pw_below_drewN | apply below_drew1) | exact HB.out)) hb); clear HO_5; clear HB; have HO_5 := n0_; have HO333 := n1_; have HB := n2_; clear n0_ n1_ n2_; (try clear hb); (try clear hb2); (try clear hk); (try clear hi); (try clear ho0))); go_upto_region 9 with (first | (go_at_call 22; (with_reducible refine (rotation_Positions.calls kj12 _ _ t322 t330 t331 _ ?side1 ?side2 A21.out).mono ?_); (case side1 => repeat (first | exact (Kd.S_reads' HO_5.out).2.2 | (with_reducible refine Kd.C_alloc ?_ _) | (with_reducible refine Kd.C_drewN ?_ _) | (with_reducible refine Kd.C_drew ?_))); (case side2 => exact (Kd.S_reads' HO_5.out).2.1); rintro e w24 ⟨v332, rfl, ho0, hb⟩; have n0_ := Aside0.mk (Kd.S_elder' (by (with_reducible repeat (first | apply Kd.S_alloc | apply Kd.S_drewN | apply Kd.S_drew)); exact HO_5.out) (Kd.R_base ho0) hb); have n1_ := Aside0.mk (Kd.R_lower ho0 (below_size (by repeat (first | (with_reducible first | exact HB.out | apply below_alloc | apply pw_below_drewN | apply below_drew1) | exact HB.out)))); have n2_ := Aside0.mk (below_step (by repeat (first | (with_reducible first | exact HB.out | apply below_alloc | apply pw_below_drewN | apply below_drew1) | exact HB.out)) hb); clear HO_5; clear HB; have HO_5 := n0_; have HO333 := n1_; have HB := n2_; clear n0_ n1_ n2_; (try clear hb); (try clear hb2); (try clear hk); (try clear hi); (try clear ho0))))
                (try simp only [Act.put, List.setIfInBounds_toArray, List.set_cons_zero, List.set_cons_succ])
                go_cut [56] (fun v56 wc => ∃ (kq : Nat) (x56_21 : Bool), v56 = .bool x56_21 ∧ Aside0 (salchowlaw36_RotationOrders.j2 kq a0 a1 t330 x56_21 = some r) ∧ Aside0 (kq ≤ kj12) ∧ Aside0 (Kd.R (Kd.int .i64) 3 wc w.heap.size (fun _ => True) v332 t330) ∧ Aside0 (Below w.heap.size w wc))
                case first =>
                  have H := HC22.out
                  clear HC22
                  by_cases c25 : t331 = 0
                  · rw [if_pos c25] at H
                    have c25b0 : (t331 == 0) = true := beq_iff_eq.mpr c25
                    have c25b1 : (t331 != 0) = false := bne_eq_false_iff_eq.mpr c25
                    clear c25
                    (first | rw [c25b0] | (simp only [i64_w, i32_w]; rw [c25b0]) | skip)
                    have H' := Aside0.mk H
                    clear H
                    obtain ⟨Ao26, co26, eo26⟩ := Kd.R_slice HO333.out
                    subst eo26
                    go_wp2
                    repeat (go_quiet (fail); try go_wp2)
                    go_meet
                    case rel => exact ⟨_, (((t330.length : Int) != a0)), (by first | rfl | (simp; done) | (simp [*]; done)), H', ⟨by have := HJ5.out; have := HJ12.out; first | omega | exact Nat.le_refl _⟩, ⟨by (with_reducible repeat (first | apply Kd.R_alloc | apply Kd.R_drewN | apply Kd.R_drew)); exact HO333.out⟩, ⟨by repeat (first | (with_reducible first | exact HB.out | apply below_alloc | apply pw_below_drewN | apply below_drew1) | exact HB.out)⟩⟩
                  · rw [if_neg c25] at H
                    have c25b0 : (t331 == 0) = false := beq_eq_false_iff_ne.mpr c25
                    have c25b1 : (t331 != 0) = true := bne_iff_ne.mpr c25
                    (first | rw [c25b0] | (simp only [i64_w, i32_w]; rw [c25b0]) | skip)
                    have H' := Aside0.mk H
                    clear H
                    go_wp2
                    repeat (go_quiet (fail); try go_wp2)
                    go_meet
                    case rel => exact ⟨_, (true), (by first | rfl | (simp; done) | (simp [*]; done)), H', ⟨by have := HJ5.out; have := HJ12.out; first | omega | exact Nat.le_refl _⟩, ⟨by (with_reducible repeat (first | apply Kd.R_alloc | apply Kd.R_drewN | apply Kd.R_drew)); exact HO333.out⟩, ⟨by repeat (first | (with_reducible first | exact HB.out | apply below_alloc | apply pw_below_drewN | apply below_drew1) | exact HB.out)⟩⟩
                case rest =>
                  clear HC22
                  try clear c1
                  try clear c2
                  try clear p2
                  try clear c4
                  try clear c5
                  try clear c9
                  try clear c9b0
                  try clear c10
                  try clear c10b0
                  try clear c11
                  try clear c11b0
                  try clear c12
                  try clear c14
                  try clear c14b0
                  try clear c14b1
                  try clear c20
                  try clear c25
                  try clear c25b0
                  try clear c25b1
                  try clear p2
                  obtain ⟨kq, x56_21, rfl, HA, HJ21, HO_7, HB⟩ := hcut
                  cases kq with
                  | zero => exact absurd HA.out (by simp [salchowlaw36_RotationOrders.j2])
                  | succ kj21 =>
                    have H := HA.out
                    clear HA
                    simp only [salchowlaw36_RotationOrders.j2] at H
                    by_cases c27 : x56_21 = true
                    · subst c27
                      have H1 : (some false) = some r := by rw [if_pos rfl] at H; exact H
                      clear H
                      have H := H1
                      clear H1
                      obtain rfl := Option.some.inj H
                      go_wp2
                      repeat (go_quiet (fail); try go_wp2)
                      go_ret
                      exact ⟨by first | rfl | (simp [errW_none, errW_some] <;> rfl) | (simp [*, errW_none, errW_some] <;> rfl), by repeat (first | (with_reducible first | exact HB.out | apply below_alloc | apply pw_below_drewN | apply below_drew1) | exact HB.out)⟩
                    · replace c27 := Bool.eq_false_iff.mpr c27
                      subst c27
                      have H1 : (salchowlaw36_RotationOrders.l0 kj21 a0 a1 t330 1) = some r := by rw [if_neg (show ¬ (false = true) by decide)] at H; exact H
                      clear H
                      have H := H1
                      clear H1
                      have H' := Aside0.mk H
                      clear H
                      go_wp2
                      repeat (go_quiet (fail); try go_wp2)
                      go_loopg [9] kj21 (fun kq v9 w' => ∃ (x9_4 : Int), v9 = .int .i64 x9_4 ∧ Aside0 (salchowlaw36_RotationOrders.l0 kq a0 a1 t330 x9_4 = some r) ∧ Aside0 (kq ≤ kj21) ∧ Aside0 (Kd.R (Kd.int .i64) 3 w' w.heap.size (fun _ => True) v332 t330) ∧ Aside0 (Below w.heap.size w w'))
                      case atStart => exact ⟨(1), (by first | rfl | (simp; done) | (simp [*]; done)), H', ⟨Nat.le_refl _⟩, ⟨by (with_reducible repeat (first | apply Kd.R_alloc | apply Kd.R_drewN | apply Kd.R_drew)); exact HO_7.out⟩, ⟨by repeat (first | (with_reducible first | exact HB.out | apply below_alloc | apply pw_below_drewN | apply below_drew1) | exact HB.out)⟩⟩
                      case round =>
                        clear H'
                        try clear c1
                        try clear c2
                        try clear p2
                        try clear c4
                        try clear c5
                        try clear c9
                        try clear c9b0
                        try clear c10
                        try clear c10b0
                        try clear c11
                        try clear c11b0
                        try clear c12
                        try clear c14
                        try clear c14b0
                        try clear c14b1
                        try clear c20
                        try clear c25
                        try clear c25b0
                        try clear c25b1
                        try clear c27
                        try clear p2
                        obtain ⟨x9_4, rfl, HA, HK4, HO_7, HB⟩ := hrel
                        cases gk with
                        | zero => exact absurd HA.out (by simp [salchowlaw36_RotationOrders.l0])
                        | succ k4 =>
                          have H := HA.out
                          clear HA
                          simp only [salchowlaw36_RotationOrders.l0] at H
                          by_cases c28 : x9_4 < a0
                          · rw [if_pos c28] at H
                            have c28b0 : decide (x9_4 < a0) = true := decide_eq_true c28
                            clear c28
                            by_cases c29 : a0 = 0
                            · rw [if_pos c29] at H
                              exact absurd H (by simp)
                            · rw [if_neg c29] at H
                              have c29b0 : (a0 == 0) = false := beq_eq_false_iff_ne.mpr c29
                              have c29b1 : (a0 != 0) = true := bne_iff_ne.mpr c29
                              by_cases c30 : (Int.tmod a1 a0) = 0
                              · rw [if_pos c30] at H
                                have c30b0 : ((Int.tmod a1 a0) == 0) = true := beq_iff_eq.mpr c30
                                have c30b1 : ((Int.tmod a1 a0) != 0) = false := bne_eq_false_iff_eq.mpr c30
                                clear c30
                                by_cases c31 : 0 ≤ x9_4
                                · rw [if_pos c31] at H
                                  have c31b0 : decide (0 ≤ x9_4) = true := decide_eq_true c31
                                  clear c31
                                  by_cases c32 : x9_4 < (t330.length : Int)
                                  · rw [if_pos c32] at H
                                    have c32b0 : decide (x9_4 < (t330.length : Int)) = true := decide_eq_true c32
                                    clear c32
                                    by_cases c33 : 0 < (t330.length : Int)
                                    · rw [if_pos c33] at H
                                      have c33b0 : decide (0 < (t330.length : Int)) = true := decide_eq_true c33
                                      have c33b1 : decide (0 < t330.length) = true := decide_eq_true (by omega)
                                      clear c33
                                      by_cases c34 : (rd t330 x9_4) = (rd t330 0)
                                      · rw [if_pos c34] at H
                                        have c34b0 : ((rd t330 x9_4) == (rd t330 0)) = true := beq_iff_eq.mpr c34
                                        have c34b1 : ((rd t330 x9_4) != (rd t330 0)) = false := bne_eq_false_iff_eq.mpr c34
                                        clear c34
                                        have H' := Aside0.mk H
                                        clear H
                                        obtain ⟨Ao35, co35, eo35⟩ := Kd.R_slice HO_7.out
                                        subst eo35
                                        have p334 : 0 ≤ (x9_4 : Int) := of_decide_eq_true (by first | (with_reducible assumption) | assumption)
                                        have q334 : x9_4 < (t330.length : Int) := of_decide_eq_true (by first | (with_reducible assumption) | assumption)
                                        obtain ⟨ad334, e334, hx334_0⟩ := Kd.at_int (Kd.R_reads' HO_7.out).2.2 x9_4 p334 q334
                                        cases e334
                                        replace p334 := eq_true p334
                                        replace q334 := eq_true q334
                                        have p335 : 0 ≤ (0 : Int) := (by omega)
                                        have q335 : 0 < (t330.length : Int) := of_decide_eq_true (by first | (with_reducible assumption) | assumption)
                                        obtain ⟨ad335, e335, hx335_0⟩ := Kd.at_int (Kd.R_reads' HO_7.out).2.2 0 p335 q335
                                        obtain rfl : ad334 = ad335 := (by injection e335)
                                        have qi335 : (0 < t330.length) = True := eq_true (by omega)
                                        (try rw [show ((0 : Int)).toNat = 0 from rfl] at hx335_0)
                                        (try rw [Addr.add_zero'] at hx335_0)
                                        replace p335 := eq_true p335
                                        replace q335 := eq_true q335
                                        go_wp2
                                        repeat (go_quiet (fail); try go_wp2)
                                        go_roundg k4
                                        case measure => have := HJ5.out; have := HJ12.out; have := HJ21.out; have := HK4.out; omega
                                        case rel => exact ⟨(wrap64 (x9_4 + 1)), (by first | rfl | (simp; done) | (simp [*]; done)), H', ⟨by have := HJ5.out; have := HJ12.out; have := HJ21.out; have := HK4.out; omega⟩, ⟨by (with_reducible repeat (first | apply Kd.R_alloc | apply Kd.R_drewN | apply Kd.R_drew)); exact HO_7.out⟩, ⟨by repeat (first | (with_reducible first | exact HB.out | apply below_alloc | apply pw_below_drewN | apply below_drew1) | exact HB.out)⟩⟩
                                      · rw [if_neg c34] at H
                                        have c34b0 : ((rd t330 x9_4) == (rd t330 0)) = false := beq_eq_false_iff_ne.mpr c34
                                        have c34b1 : ((rd t330 x9_4) != (rd t330 0)) = true := bne_iff_ne.mpr c34
                                        obtain rfl := Option.some.inj H
                                        obtain ⟨Ao36, co36, eo36⟩ := Kd.R_slice HO_7.out
                                        subst eo36
                                        have p334 : 0 ≤ (x9_4 : Int) := of_decide_eq_true (by first | (with_reducible assumption) | assumption)
                                        have q334 : x9_4 < (t330.length : Int) := of_decide_eq_true (by first | (with_reducible assumption) | assumption)
                                        obtain ⟨ad334, e334, hx334_0⟩ := Kd.at_int (Kd.R_reads' HO_7.out).2.2 x9_4 p334 q334
                                        cases e334
                                        replace p334 := eq_true p334
                                        replace q334 := eq_true q334
                                        have p335 : 0 ≤ (0 : Int) := (by omega)
                                        have q335 : 0 < (t330.length : Int) := of_decide_eq_true (by first | (with_reducible assumption) | assumption)
                                        obtain ⟨ad335, e335, hx335_0⟩ := Kd.at_int (Kd.R_reads' HO_7.out).2.2 0 p335 q335
                                        obtain rfl : ad334 = ad335 := (by injection e335)
                                        have qi335 : (0 < t330.length) = True := eq_true (by omega)
                                        (try rw [show ((0 : Int)).toNat = 0 from rfl] at hx335_0)
                                        (try rw [Addr.add_zero'] at hx335_0)
                                        replace p335 := eq_true p335
                                        replace q335 := eq_true q335
                                        go_wp2
                                        repeat (go_quiet (fail); try go_wp2)
                                        go_ret
                                        exact ⟨by first | rfl | (simp [errW_none, errW_some] <;> rfl) | (simp [*, errW_none, errW_some] <;> rfl), by repeat (first | (with_reducible first | exact HB.out | apply below_alloc | apply pw_below_drewN | apply below_drew1) | exact HB.out)⟩
                                    · rw [if_neg c33] at H
                                      exact absurd H (by simp)
                                  · rw [if_neg c32] at H
                                    exact absurd H (by simp)
                                · rw [if_neg c31] at H
                                  exact absurd H (by simp)
                              · rw [if_neg c30] at H
                                have c30b0 : ((Int.tmod a1 a0) == 0) = false := beq_eq_false_iff_ne.mpr c30
                                have c30b1 : ((Int.tmod a1 a0) != 0) = true := bne_iff_ne.mpr c30
                                have H' := Aside0.mk H
                                clear H
                                go_wp2
                                repeat (go_quiet (fail); try go_wp2)
                                go_roundg k4
                                case measure => have := HJ5.out; have := HJ12.out; have := HJ21.out; have := HK4.out; omega
                                case rel => exact ⟨(wrap64 (x9_4 + 1)), (by first | rfl | (simp; done) | (simp [*]; done)), H', ⟨by have := HJ5.out; have := HJ12.out; have := HJ21.out; have := HK4.out; omega⟩, ⟨by (with_reducible repeat (first | apply Kd.R_alloc | apply Kd.R_drewN | apply Kd.R_drew)); exact HO_7.out⟩, ⟨by repeat (first | (with_reducible first | exact HB.out | apply below_alloc | apply pw_below_drewN | apply below_drew1) | exact HB.out)⟩⟩
                          · rw [if_neg c28] at H
                            have c28b0 : decide (x9_4 < a0) = false := decide_eq_false c28
                            clear c28
                            obtain rfl := Option.some.inj H
                            go_wp2
                            repeat (go_quiet (fail); try go_wp2)
                            go_ret
                            exact ⟨by first | rfl | (simp [errW_none, errW_some] <;> rfl) | (simp [*, errW_none, errW_some] <;> rfl), by repeat (first | (with_reducible first | exact HB.out | apply below_alloc | apply pw_below_drewN | apply below_drew1) | exact HB.out)⟩
  · replace c4 := Bool.eq_false_iff.mpr c4
    subst c4
    have H1 : (some false) = some r := by rw [if_neg (show ¬ (false = true) by decide)] at H; exact H
    clear H
    have H := H1
    clear H1
    obtain rfl := Option.some.inj H
    go_enter Try.func5, Try.ntmps5
    go_wp2_with (first | (go_at_call 13; (with_reducible refine (salchowlaw36_awake.calls k  false _ A3.out).mono ?_); rintro e w37 ⟨rfl, hb⟩; have n0_ := Aside0.mk (below_step (by repeat (first | (with_reducible first | exact HB.out | apply below_alloc | apply pw_below_drewN | apply below_drew1) | exact HB.out)) hb); clear HB; have HB := n0_; clear n0_; (try clear hb); (try clear hb2); (try clear hk); (try clear hi)))
    repeat (go_quiet (first | (go_at_call 13; (with_reducible refine (salchowlaw36_awake.calls k  false _ A3.out).mono ?_); rintro e w37 ⟨rfl, hb⟩; have n0_ := Aside0.mk (below_step (by repeat (first | (with_reducible first | exact HB.out | apply below_alloc | apply pw_below_drewN | apply below_drew1) | exact HB.out)) hb); clear HB; have HB := n0_; clear n0_; (try clear hb); (try clear hb2); (try clear hk); (try clear hi))); try go_wp2_with (first | (go_at_call 13; (with_reducible refine (salchowlaw36_awake.calls k  false _ A3.out).mono ?_); rintro e w37 ⟨rfl, hb⟩; have n0_ := Aside0.mk (below_step (by repeat (first | (with_reducible first | exact HB.out | apply below_alloc | apply pw_below_drewN | apply below_drew1) | exact HB.out)) hb); clear HB; have HB := n0_; clear n0_; (try clear hb); (try clear hb2); (try clear hk); (try clear hi))))
    go_ret
    exact ⟨by first | rfl | (simp [errW_none, errW_some] <;> rfl) | (simp [*, errW_none, errW_some] <;> rfl), by repeat (first | (with_reducible first | exact HB.out | apply below_alloc | apply pw_below_drewN | apply below_drew1) | exact HB.out)⟩

/-- THE ONE PURE STATEMENT of salchowlaw36_RotationOrders: yours. -/
def salchowlaw36_RotationOrders.Pure : Prop := ∀ (a0 : Int) (a1 : Int), (Lit.int .i64 a0).wf = true → (Lit.int .i64 a1).wf = true → ∃ k, salchowlaw36_RotationOrders.f k a0 a1 = some true
theorem salchowlaw36_RotationOrders.walk (P : salchowlaw36_RotationOrders.Pure) (a0 : Int) (a1 : Int) (w : World) (w0 : (Lit.int .i64 a0).wf = true) (w1 : (Lit.int .i64 a1).wf = true) :
    Calls Try.prog 5 #[.int .i64 a0, .int .i64 a1] w fun e w' => e = .returned (.bool true) ∧ Below w.heap.size w w' := by
  obtain ⟨k, h⟩ := P a0 a1 w0 w1
  refine (salchowlaw36_RotationOrders.calls k a0 a1 true w h).mono ?_
  rintro e w' ⟨rfl, hd⟩
  exact ⟨rfl, hd⟩

end Go.Proofs.Ytaodpgblleiiaaa.P
