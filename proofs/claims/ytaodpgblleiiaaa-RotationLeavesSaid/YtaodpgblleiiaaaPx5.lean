-- out of a program (drive.sh), by way of the translation's print
import Derived.Test.YtaodpgblleiiaaaPx0
import Derived.Test.YtaodpgblleiiaaaPx1
import Derived.Test.YtaodpgblleiiaaaPx4
namespace Go.Proofs.Ytaodpgblleiiaaa.P
open Go.RowKit Go.Proofs.YtaodpgblleiiaaaW.PrintWords Go.Proofs.YtaodpgblleiiaaaW.PrintLast Go.Proofs.YtaodpgblleiiaaaW.PrintMore
attribute [local go_sem] max2_int min2_int max_two min_two max_three min_three max_four min_four   -- for this text's walks alone
set_option linter.unusedVariables false
set_option linter.unusedSimpArgs false

/-! ### salchowref36_Turn: function 37 -/
def salchowref36_Turn.f (a0 : Int) (a1 : Int) : Option (Int) := if (Int.tmod a0 2) = 1 then (some (wrap64 (Int.tdiv (wrap64 (a0 + 1)) 2))) else (if a1 = 0 then (none) else (some (Int.tmod (wrap64 (a1 - (wrap64 (Int.tdiv a0 2)))) a1)))
set_option maxHeartbeats 8000000 in
set_option maxRecDepth 100000 in
theorem salchowref36_Turn.calls (a0 : Int) (a1 : Int) (r : Int) (w : World) (h : salchowref36_Turn.f a0 a1 = some r) :
    Calls Try.prog 37 #[.int .i64 a0, .int .i64 a1] w fun e w' => e = .returned (.int .i64 r) ∧ Drawn0 w w' := by
  have H : (if (Int.tmod a0 2) = 1 then (some (wrap64 (Int.tdiv (wrap64 (a0 + 1)) 2))) else (if a1 = 0 then (none) else (some (Int.tmod (wrap64 (a1 - (wrap64 (Int.tdiv a0 2)))) a1)))) = some r := h
  clear h
  by_cases c3 : (Int.tmod a0 2) = 1
  · rw [if_pos c3] at H
    have c3b0 : ((Int.tmod a0 2) == 1) = true := beq_iff_eq.mpr c3
    have c3b1 : ((Int.tmod a0 2) != 1) = false := bne_eq_false_iff_eq.mpr c3
    clear c3
    obtain rfl := Option.some.inj H
    go_enter Try.func37, Try.ntmps37
    go_wp2
    go_ret
    exact ⟨by first | rfl | (simp; done) | (simp [*]; done), by repeat (first | exact Drawn0.refl _ | apply Drawn0.step)⟩
  · rw [if_neg c3] at H
    have c3b0 : ((Int.tmod a0 2) == 1) = false := beq_eq_false_iff_ne.mpr c3
    have c3b1 : ((Int.tmod a0 2) != 1) = true := bne_iff_ne.mpr c3
    by_cases c4 : a1 = 0
    · rw [if_pos c4] at H
      exact absurd H (by simp)
    · rw [if_neg c4] at H
      have c4b0 : (a1 == 0) = false := beq_eq_false_iff_ne.mpr c4
      have c4b1 : (a1 != 0) = true := bne_iff_ne.mpr c4
      obtain rfl := Option.some.inj H
      go_enter Try.func37, Try.ntmps37
      go_wp2
      go_ret
      exact ⟨by first | rfl | (simp; done) | (simp [*]; done), by repeat (first | exact Drawn0.refl _ | apply Drawn0.step)⟩

/-! ### salchowref36_Balanced: function 18 -/
mutual
def salchowref36_Balanced.l0 : Nat → Int → List (List Int) → Int → Option ((List (List Int)))
  | 0, _, _, _ => none
  | k + 1, x0, x3, x4 => if x4 < x0 then (salchowref36_Balanced.l1 k x0 x3 x4 (([] : List Int)) 0) else (some x3)
def salchowref36_Balanced.l1 : Nat → Int → List (List Int) → Int → List Int → Int → Option ((List (List Int)))
  | 0, _, _, _, _, _ => none
  | k + 1, x0, x3, x4, x5, x6 => if x6 < x0 then ((salchowref36_Turn.f x4 x0).bind fun t265 => (if x0 = 0 then (none) else (if x5.length < 17592186044416 then (salchowref36_Balanced.l1 k x0 x3 x4 (x5 ++ [Int.tmod (wrap64 (t265 + x6)) x0]) (wrap64 (x6 + 1))) else (none)))) else (if x3.length < 5864062014805 then (salchowref36_Balanced.l0 k x0 (x3 ++ [x5]) (wrap64 (x4 + 1))) else (none))
end
def salchowref36_Balanced.f (k : Nat) (a0 : Int) : Option ((List (List Int))) := salchowref36_Balanced.l0 k a0 (([] : List (List Int))) 0
theorem salchowref36_Balanced.mono_l : ∀ k, (∀ y0 y1 y2, LeO (salchowref36_Balanced.l0 k y0 y1 y2) (salchowref36_Balanced.l0 (k + 1) y0 y1 y2)) ∧ (∀ y0 y1 y2 y3 y4, LeO (salchowref36_Balanced.l1 k y0 y1 y2 y3 y4) (salchowref36_Balanced.l1 (k + 1) y0 y1 y2 y3 y4))
  | 0 => ⟨fun _ _ _ r h => by simp [salchowref36_Balanced.l0] at h, fun _ _ _ _ _ r h => by simp [salchowref36_Balanced.l1] at h⟩
  | k + 1 => by
    obtain ⟨ih0, ih1⟩ := salchowref36_Balanced.mono_l k
    refine ⟨?_, ?_⟩
    · intro y0 y1 y2
      unfold salchowref36_Balanced.l0
      repeat' first
      | (with_reducible exact ih0 _ _ _)
      | (with_reducible exact ih1 _ _ _ _ _)
      | (with_reducible exact LeO.refl _)
      | (with_reducible exact LeO.none _)
      | (with_reducible refine LeO.ite ?_ ?_)
      | (with_reducible refine LeO.bind ?_ (fun _ => ?_))
      | exact ih0 _ _ _
      | exact ih1 _ _ _ _ _
      | exact LeO.none _
      | refine LeO.ite ?_ ?_
      | refine LeO.bind ?_ (fun _ => ?_)
    · intro y0 y1 y2 y3 y4
      unfold salchowref36_Balanced.l1
      repeat' first
      | (with_reducible exact ih0 _ _ _)
      | (with_reducible exact ih1 _ _ _ _ _)
      | (with_reducible exact LeO.refl _)
      | (with_reducible exact LeO.none _)
      | (with_reducible refine LeO.ite ?_ ?_)
      | (with_reducible refine LeO.bind ?_ (fun _ => ?_))
      | exact ih0 _ _ _
      | exact ih1 _ _ _ _ _
      | exact LeO.none _
      | refine LeO.ite ?_ ?_
      | refine LeO.bind ?_ (fun _ => ?_)
theorem salchowref36_Balanced.mono : ∀ a0 k, LeO (salchowref36_Balanced.f k a0) (salchowref36_Balanced.f (k + 1) a0) := by
  intro a0 k
  obtain ⟨ih0, ih1⟩ := salchowref36_Balanced.mono_l k
  unfold salchowref36_Balanced.f
  repeat' first
      | (with_reducible exact ih0 _ _ _)
      | (with_reducible exact ih1 _ _ _ _ _)
      | (with_reducible exact LeO.refl _)
      | (with_reducible exact LeO.none _)
      | (with_reducible refine LeO.ite ?_ ?_)
      | (with_reducible refine LeO.bind ?_ (fun _ => ?_))
      | exact ih0 _ _ _
      | exact ih1 _ _ _ _ _
      | exact LeO.none _
      | refine LeO.ite ?_ ?_
      | refine LeO.bind ?_ (fun _ => ?_)
set_option maxHeartbeats 8000000 in
set_option maxRecDepth 100000 in
theorem salchowref36_Balanced.calls (k : Nat) (a0 : Int) (r : List (List Int)) (w : World) (h : salchowref36_Balanced.f k a0 = some r) :
    Calls Try.prog 18 #[.int .i64 a0] w fun e w' => ∃ v0_ : Value, e = .returned (v0_) ∧ Kd.S (Kd.slice 3 (Kd.int .i64)) 31 w' w.heap.size (fun _ => True) v0_ r ∧ Below w.heap.size w w' := by
  have HB := Aside0.mk (Below.refl w.heap.size w)
  have H : (salchowref36_Balanced.l0 k a0 (([] : List (List Int))) 0) = some r := h
  clear h
  obtain ⟨y259, hy259⟩ : ∃ y_ : List (List Int), y_ = (([] : List (List Int))) := ⟨_, rfl⟩
  replace H : (salchowref36_Balanced.l0 k a0 y259 0) = some r := by first | (rw [hy259]; with_reducible exact H) | (have H2_ := (Option.bind_some _ _).symm.trans H; rw [hy259]; with_reducible exact H2_) | (have H2_ := (Option.bind_some _ _).symm.trans H; with_reducible exact H2_) | with_reducible exact H | (rw [hy259]; exact H) | exact H
  have Ny259 := Aside0.mk hy259
  clear hy259
  have H' := Aside0.mk H
  clear H
  go_enter Try.func18, Try.ntmps18
  go_wp2_with (first | ((with_reducible refine gate_dst (N := 7) rfl ?_); refine Kd.S_lit (Kd.slice 3 (Kd.int .i64)) _ 31 ?hg (N := 7) ?hd (xs := ([] : List (List Int))) (inner := []) (ok := fun _ => True) (okp := fun _ => True) ?hr ?hp (fun _ hk => hk) trivial (Below.refl _ _) (Nat.le_refl _) (by simp) ?_; (case hd => rfl); (case hg => rfl); (case hr => first | (go_simp; done) | (go_simp; rfl)); (case hp => exact (Reps.none _ _)); intro v260 w2 ho3 hb hg_ hnew_; clear hg_ hnew_; (first | rw [← Ny259.out] at ho3 | (simp only [Int.reduceToNat] at ho3; rw [← Ny259.out] at ho3)); have n0_ := Aside0.mk (Kd.S_lower ho3 (below_size (by repeat (first | (with_reducible first | exact HB.out | apply below_alloc | apply pw_below_drewN | apply below_drew1) | exact HB.out)))); have n1_ := Aside0.mk (below_step (by repeat (first | (with_reducible first | exact HB.out | apply below_alloc | apply pw_below_drewN | apply below_drew1) | exact HB.out)) hb); clear HB; have HO261 := n0_; have HB := n1_; clear n0_ n1_; clear hb ho3))
  go_loopg [3, 4] k (fun kq v3 v4 w' => ∃ (x3_1 : List (List Int)) (x4_1 : Int), v4 = .int .i64 x4_1 ∧ Aside0 (salchowref36_Balanced.l0 kq a0 x3_1 x4_1 = some r) ∧ Aside0 (kq ≤ k) ∧ Aside0 (Kd.S (Kd.slice 3 (Kd.int .i64)) 31 w' w.heap.size (fun _ => True) v3 x3_1) ∧ Aside0 (Below w.heap.size w w'))
  case atStart => exact ⟨(y259), (0), (by first | rfl | (simp; done) | (simp [*]; done)), H', ⟨Nat.le_refl _⟩, ⟨by (with_reducible repeat (first | apply Kd.S_alloc | apply Kd.S_drewN | apply Kd.S_drew)); exact HO261.out⟩, ⟨by repeat (first | (with_reducible first | exact HB.out | apply below_alloc | apply pw_below_drewN | apply below_drew1) | exact HB.out)⟩⟩
  case round =>
    clear H'
    try clear c1
    try clear p2
    obtain ⟨x3_1, x4_1, rfl, HA, HK1, HO_3, HB⟩ := hrel
    cases gk with
    | zero => exact absurd HA.out (by simp [salchowref36_Balanced.l0])
    | succ k1 =>
      have H := HA.out
      clear HA
      simp only [salchowref36_Balanced.l0] at H
      by_cases c4 : x4_1 < a0
      · rw [if_pos c4] at H
        have c4b0 : decide (x4_1 < a0) = true := decide_eq_true c4
        clear c4
        obtain ⟨y262, hy262⟩ : ∃ y_ : List Int, y_ = (([] : List Int)) := ⟨_, rfl⟩
        replace H : (salchowref36_Balanced.l1 k1 a0 x3_1 x4_1 y262 0) = some r := by first | (rw [hy262]; with_reducible exact H) | (have H2_ := (Option.bind_some _ _).symm.trans H; rw [hy262]; with_reducible exact H2_) | (have H2_ := (Option.bind_some _ _).symm.trans H; with_reducible exact H2_) | with_reducible exact H | (rw [hy262]; exact H) | exact H
        have Ny262 := Aside0.mk hy262
        clear hy262
        have H' := Aside0.mk H
        clear H
        go_wp2_with (first | ((with_reducible refine gate_dst (N := 13) rfl ?_); refine Kd.R_lit (Kd.int .i64) _ 3 ?hg (N := 13) ?hd (xs := ([] : List Int)) (inner := []) (ok := fun _ => True) (okp := fun _ => True) ?hr ?hp (fun _ hk => hk) trivial (Below.refl _ _) (Nat.le_refl _) (by simp) ?_; (case hd => rfl); (case hg => rfl); (case hr => first | (go_simp; done) | (go_simp; rfl)); (case hp => exact (Reps.none _ _)); intro v263 w5 ho6 hb hg_ hnew_; clear hg_ hnew_; (first | rw [← Ny262.out] at ho6 | (simp only [Int.reduceToNat] at ho6; rw [← Ny262.out] at ho6)); have n0_ := Aside0.mk (Kd.S_elder' (by (with_reducible repeat (first | apply Kd.S_alloc | apply Kd.S_drewN | apply Kd.S_drew)); exact HO_3.out) (Kd.R_base ho6) hb); have n1_ := Aside0.mk (Kd.R_lower ho6 (below_size (by repeat (first | (with_reducible first | exact HB.out | apply below_alloc | apply pw_below_drewN | apply below_drew1) | exact HB.out)))); have n2_ := Aside0.mk (below_step (by repeat (first | (with_reducible first | exact HB.out | apply below_alloc | apply pw_below_drewN | apply below_drew1) | exact HB.out)) hb); clear HO_3; clear HB; have HO_3 := n0_; have HO264 := n1_; have HB := n2_; clear n0_ n1_ n2_; clear hb ho6))
        go_loopg [5, 6] k1 (fun kq v5 v6 w' => ∃ (x5_2 : List Int) (x6_2 : Int), v6 = .int .i64 x6_2 ∧ Aside0 (salchowref36_Balanced.l1 kq a0 x3_1 x4_1 x5_2 x6_2 = some r) ∧ Aside0 (kq ≤ k1) ∧ Aside0 (Kd.S (Kd.slice 3 (Kd.int .i64)) 31 w' w.heap.size (fun k_ => some k_ ≠ (v5 : Value).ownBlock) u3 x3_1) ∧ Aside0 (Kd.R (Kd.int .i64) 3 w' w.heap.size (fun _ => True) v5 x5_2) ∧ Aside0 (Below w.heap.size w w'))
        case atStart => exact ⟨(y262), (0), (by first | rfl | (simp; done) | (simp [*]; done)), H', ⟨Nat.le_refl _⟩, ⟨by (with_reducible repeat (first | apply Kd.S_alloc | apply Kd.S_drewN | apply Kd.S_drew)); exact Kd.S_mono HO_3.out (fun _ hk => hk.2)⟩, ⟨by (with_reducible repeat (first | apply Kd.R_alloc | apply Kd.R_drewN | apply Kd.R_drew)); exact HO264.out⟩, ⟨by repeat (first | (with_reducible first | exact HB.out | apply below_alloc | apply pw_below_drewN | apply below_drew1) | exact HB.out)⟩⟩
        case round =>
          clear H'
          try clear c1
          try clear p2
          try clear c4
          try clear c4b0
          try clear p2
          obtain ⟨x5_2, x6_2, rfl, HA, HK2, HO_3, HO_5, HB⟩ := hrel
          cases gk with
          | zero => exact absurd HA.out (by simp [salchowref36_Balanced.l1])
          | succ k2 =>
            have H := HA.out
            clear HA
            simp only [salchowref36_Balanced.l1] at H
            by_cases c7 : x6_2 < a0
            · rw [if_pos c7] at H
              have c7b0 : decide (x6_2 < a0) = true := decide_eq_true c7
              clear c7
              replace H := Option.bind_eq_some_iff.mp H
              obtain ⟨t265, A80, H⟩ := H
              replace H : (if a0 = 0 then (none) else (if x5_2.length < 17592186044416 then (salchowref36_Balanced.l1 k2 a0 x3_1 x4_1 (x5_2 ++ [Int.tmod (wrap64 (t265 + x6_2)) a0]) (wrap64 (x6_2 + 1))) else (none))) = some r := H
              have A8 := Aside0.mk A80
              clear A80
              by_cases c9 : a0 = 0
              · rw [if_pos c9] at H
                exact absurd H (by simp)
              · rw [if_neg c9] at H
                have c9b0 : (a0 == 0) = false := beq_eq_false_iff_ne.mpr c9
                have c9b1 : (a0 != 0) = true := bne_iff_ne.mpr c9
                by_cases c10 : x5_2.length < 17592186044416
                · rw [if_pos c10] at H
                  have LMc10 := Aside0.mk c10
                  clear c10
                  obtain ⟨y266, hy266⟩ : ∃ y_ : List Int, y_ = (x5_2 ++ [Int.tmod (wrap64 (t265 + x6_2)) a0]) := ⟨_, rfl⟩
                  replace H : (salchowref36_Balanced.l1 k2 a0 x3_1 x4_1 y266 (wrap64 (x6_2 + 1))) = some r := by first | (rw [hy266]; with_reducible exact H) | (have H2_ := (Option.bind_some _ _).symm.trans H; rw [hy266]; with_reducible exact H2_) | (have H2_ := (Option.bind_some _ _).symm.trans H; with_reducible exact H2_) | with_reducible exact H | (rw [hy266]; exact H) | exact H
                  have Ny266 := Aside0.mk hy266
                  clear hy266
                  have H' := Aside0.mk H
                  clear H
                  go_wp2_with (first | ((with_reducible refine gate_callee (f := 37) rfl ?_); refine goesL_ (some 22) rfl rfl Try.func37 (by kernel_rfl) rfl #[.int .i64 x4_1, .int .i64 a0] rfl (by (try simp only [List.map_toArray, List.map_cons, List.map_nil]); first | done | rfl | (simp only [List.length_drop, List.length_take]; rfl)) ?_; (with_reducible refine (salchowref36_Turn.calls x4_1 a0 t265 _ A8.out).mono ?_); rintro e w' ⟨rfl, ⟨nd, rfl⟩⟩; refine ⟨_, rfl, ?_⟩) | ((with_reducible refine gate_builtin (b := .append) (xs := #[.tmp 19, .tmp 27]) rfl ?_); at_builtin; refine Kd.R_append (Kd.int .i64) (w0 := w) w.heap.size rfl (.tmp 19) (.tmp 27) 31 3 (.int .i64 0) 8 rfl Try.underlying31 info3 rfl (by decide) (by omega) u5 x5_2 (Int.tmod (wrap64 (t265 + x6_2)) a0) [.int .i64 (Int.tmod (wrap64 (t265 + x6_2)) a0)] (fun _ => True) (fun _ => False) rfl rfl ?aP (fun _ hk => hk.elim) ?aF ?aO ?aB ?aS ?aL ?_; (case aP => exact rfl); (case aB => exact (by repeat (first | (with_reducible first | exact HB.out | apply below_alloc | apply pw_below_drewN | apply below_drew1) | exact HB.out))); (case aF => exact (fun _ _ => trivial)); (case aO => exact (by (with_reducible repeat (first | apply Kd.R_alloc | apply Kd.R_drewN | apply Kd.R_drew)); exact HO_5.out)); (case aS => exact (below_size (by repeat (first | (with_reducible first | exact HB.out | apply below_alloc | apply pw_below_drewN | apply below_drew1) | exact HB.out)))); (case aL => have := LMc10.out; omega); intro v267 w11 ho hb hg hat; rw [← Ny266.out] at ho; have n0_ := Aside0.mk (Kd.S_after (ok := (fun _ => True)) (by (with_reducible repeat (first | apply Kd.S_alloc | apply Kd.S_drewN | apply Kd.S_drew)); exact Kd.S_mono HO_3.out (fun _ hk => ⟨trivial, hk⟩)) hg hat); have n1_ := Aside0.mk (hb); have n2_ := Aside0.mk (ho); clear HO_3; clear HB; clear HO_5; have HO_3 := n0_; have HB := n1_; have HO268 := n2_; clear n0_ n1_ n2_; clear ho hb hg hat))
                  go_roundg k2
                  case measure => have := HK1.out; have := HK2.out; omega
                  case rel => exact ⟨(y266), (wrap64 (x6_2 + 1)), (by first | rfl | (simp; done) | (simp [*]; done)), H', ⟨by have := HK1.out; have := HK2.out; omega⟩, ⟨by (with_reducible repeat (first | apply Kd.S_alloc | apply Kd.S_drewN | apply Kd.S_drew)); exact Kd.S_mono HO_3.out (fun _ hk => hk.2)⟩, ⟨by (with_reducible repeat (first | apply Kd.R_alloc | apply Kd.R_drewN | apply Kd.R_drew)); exact HO268.out⟩, ⟨by repeat (first | (with_reducible first | exact HB.out | apply below_alloc | apply pw_below_drewN | apply below_drew1) | exact HB.out)⟩⟩
                · rw [if_neg c10] at H
                  exact absurd H (by simp)
            · rw [if_neg c7] at H
              have c7b0 : decide (x6_2 < a0) = false := decide_eq_false c7
              clear c7
              by_cases c12 : x3_1.length < 5864062014805
              · rw [if_pos c12] at H
                have LMc12 := Aside0.mk c12
                clear c12
                obtain ⟨y269, hy269⟩ : ∃ y_ : List (List Int), y_ = (x3_1 ++ [x5_2]) := ⟨_, rfl⟩
                replace H : (salchowref36_Balanced.l0 k2 a0 y269 (wrap64 (x4_1 + 1))) = some r := by first | (rw [hy269]; with_reducible exact H) | (have H2_ := (Option.bind_some _ _).symm.trans H; rw [hy269]; with_reducible exact H2_) | (have H2_ := (Option.bind_some _ _).symm.trans H; with_reducible exact H2_) | with_reducible exact H | (rw [hy269]; exact H) | exact H
                have Ny269 := Aside0.mk hy269
                clear hy269
                have H' := Aside0.mk H
                clear H
                obtain ⟨Ao14, co14, eo14⟩ := Kd.R_slice HO_5.out
                subst eo14
                go_wp2_with (first | ((with_reducible refine gate_builtin (b := .append) (xs := #[.tmp 29, .tmp 31]) rfl ?_); at_builtin; refine Kd.S_append (Kd.slice 3 (Kd.int .i64)) (w0 := w) w.heap.size rfl (.tmp 29) (.tmp 31) 23 31 (.slice none 0 0) 24 rfl Try.underlying23 info31 rfl (by decide) (by omega) u3 x3_1 x5_2 [.slice Ao14 x5_2.length co14] (fun _ => True) (fun k_ => some k_ = (.slice Ao14 x5_2.length co14 : Value).ownBlock) rfl rfl ?aP (fun k_ hk_ => ((Kd.R_mono (ok' := fun k_ => ((fun _ => True)) k_ ∧ some k_ ≠ (u3 : Value).ownBlock) (Kd.R_apart' (HO_5.out) (Kd.S_typed HO_3.out) (by decide)) (fun k_ hk => ⟨trivial, hk.2⟩))).1 k_ hk_.symm) ?aF ?aO ?aB ?aS ?aL ?_; (case aP => exact Kd.M_row (Kd.R_mono (Kd.R_tight rfl (Kd.R_mono (ok' := fun k_ => ((fun _ => True)) k_ ∧ some k_ ≠ (u3 : Value).ownBlock) (Kd.R_apart' (HO_5.out) (Kd.S_typed HO_3.out) (by decide)) (fun k_ hk => ⟨trivial, hk.2⟩))) (fun _ h_ => h_))); (case aB => exact (by repeat (first | (with_reducible first | exact HB.out | apply below_alloc | apply pw_below_drewN | apply below_drew1) | exact HB.out))); (case aF => exact (fun _ _ => trivial)); (case aO => exact (by (with_reducible repeat (first | apply Kd.S_alloc | apply Kd.S_drewN | apply Kd.S_drew)); exact Kd.S_mono HO_3.out (fun k_ hk => ⟨trivial, fun e_ => hk e_⟩))); (case aS => exact (below_size (by repeat (first | (with_reducible first | exact HB.out | apply below_alloc | apply pw_below_drewN | apply below_drew1) | exact HB.out)))); (case aL => have := LMc12.out; omega); intro v270 w13 ho hb hg hat; rw [← Ny269.out] at ho; have n0_ := Aside0.mk (hb); have n1_ := Aside0.mk (ho); clear HB; clear HO_3; clear HO_5; have HB := n0_; have HO271 := n1_; clear n0_ n1_; clear ho hb hg hat))
                go_roundg k2
                case measure => have := HK1.out; have := HK2.out; omega
                case rel => exact ⟨(y269), (wrap64 (x4_1 + 1)), (by first | rfl | (simp; done) | (simp [*]; done)), H', ⟨by have := HK1.out; have := HK2.out; omega⟩, ⟨by (with_reducible repeat (first | apply Kd.S_alloc | apply Kd.S_drewN | apply Kd.S_drew)); exact HO271.out⟩, ⟨by repeat (first | (with_reducible first | exact HB.out | apply below_alloc | apply pw_below_drewN | apply below_drew1) | exact HB.out)⟩⟩
              · rw [if_neg c12] at H
                exact absurd H (by simp)
      · rw [if_neg c4] at H
        have c4b0 : decide (x4_1 < a0) = false := decide_eq_false c4
        clear c4
        obtain rfl := Option.some.inj H
        go_wp2
        go_ret
        exact ⟨_, by first | rfl | (simp [errW_none, errW_some] <;> rfl) | (simp [*, errW_none, errW_some] <;> rfl), by (with_reducible repeat (first | apply Kd.S_alloc | apply Kd.S_drewN | apply Kd.S_drew)); exact HO_3.out, by repeat (first | (with_reducible first | exact HB.out | apply below_alloc | apply pw_below_drewN | apply below_drew1) | exact HB.out)⟩

/-! ### salchowlaw36_RotationSquares: function 3 -/
mutual
def salchowlaw36_RotationSquares.j0 : Nat → Int → List (List Int) → Int → List (List Int) → Int → Bool → Option (Bool)
  | 0, _, _, _, _, _, _ => none
  | k + 1, x0, x3, x4, x5, x6, x24 => if x24 = true then (if x4 = 1 then (some (x6 == 1)) else (some false)) else (if x4 = 0 then ((salchowref36_Cyclic.f k x0).bind fun t281 => ((salchowref36_SameRows.f k x3 t281).bind fun t284 => (salchowlaw36_RotationSquares.j1 k x0 x5 x6 (!t284)))) else (salchowlaw36_RotationSquares.j1 k x0 x5 x6 true))
def salchowlaw36_RotationSquares.j1 : Nat → Int → List (List Int) → Int → Bool → Option (Bool)
  | 0, _, _, _, _ => none
  | k + 1, x0, x5, x6, x39 => if x39 = true then (some false) else (if (Int.tmod x0 2) = 1 then (some (x6 == 8)) else (if x6 = 0 then ((salchowref36_Balanced.f k x0).bind fun t285 => ((salchowref36_SameRows.f k x5 t285).bind fun t288 => (some t288))) else (some false)))
end
def salchowlaw36_RotationSquares.f (k : Nat) (a0 : Int) : Option (Bool) := (salchowlaw36_awake.f k).bind fun t272 => (if t272 = true then ((rotation_Cyclic.f k a0).bind fun bt273 => ((rotation_Balanced.f k a0).bind fun bt277 => (if a0 < 1 then (salchowlaw36_RotationSquares.j0 k a0 bt273.1 bt273.2 bt277.1 bt277.2 true) else (salchowlaw36_RotationSquares.j0 k a0 bt273.1 bt273.2 bt277.1 bt277.2 (decide (a0 > 64)))))) else (some false))
theorem salchowlaw36_RotationSquares.mono_l : ∀ k, (∀ y0 y1 y2 y3 y4 y5, LeO (salchowlaw36_RotationSquares.j0 k y0 y1 y2 y3 y4 y5) (salchowlaw36_RotationSquares.j0 (k + 1) y0 y1 y2 y3 y4 y5)) ∧ (∀ y0 y1 y2 y3, LeO (salchowlaw36_RotationSquares.j1 k y0 y1 y2 y3) (salchowlaw36_RotationSquares.j1 (k + 1) y0 y1 y2 y3))
  | 0 => ⟨fun _ _ _ _ _ _ r h => by simp [salchowlaw36_RotationSquares.j0] at h, fun _ _ _ _ r h => by simp [salchowlaw36_RotationSquares.j1] at h⟩
  | k + 1 => by
    obtain ⟨ih0, ih1⟩ := salchowlaw36_RotationSquares.mono_l k
    refine ⟨?_, ?_⟩
    · intro y0 y1 y2 y3 y4 y5
      unfold salchowlaw36_RotationSquares.j0
      repeat' first
      | (with_reducible exact ih0 _ _ _ _ _ _)
      | (with_reducible exact ih1 _ _ _ _)
      | (with_reducible exact rotation_Balanced.mono _ _)
      | (with_reducible exact rotation_Cyclic.mono _ _)
      | (with_reducible exact salchowlaw36_awake.mono _)
      | (with_reducible exact salchowref36_Balanced.mono _ _)
      | (with_reducible exact salchowref36_Cyclic.mono _ _)
      | (with_reducible exact salchowref36_SameRows.mono _ _ _)
      | (with_reducible exact LeO.refl _)
      | (with_reducible exact LeO.none _)
      | (with_reducible refine LeO.ite ?_ ?_)
      | (with_reducible refine LeO.bind ?_ (fun _ => ?_))
      | exact ih0 _ _ _ _ _ _
      | exact ih1 _ _ _ _
      | exact rotation_Balanced.mono _ _
      | exact rotation_Cyclic.mono _ _
      | exact salchowlaw36_awake.mono _
      | exact salchowref36_Balanced.mono _ _
      | exact salchowref36_Cyclic.mono _ _
      | exact salchowref36_SameRows.mono _ _ _
      | exact LeO.none _
      | refine LeO.ite ?_ ?_
      | refine LeO.bind ?_ (fun _ => ?_)
    · intro y0 y1 y2 y3
      unfold salchowlaw36_RotationSquares.j1
      repeat' first
      | (with_reducible exact ih0 _ _ _ _ _ _)
      | (with_reducible exact ih1 _ _ _ _)
      | (with_reducible exact rotation_Balanced.mono _ _)
      | (with_reducible exact rotation_Cyclic.mono _ _)
      | (with_reducible exact salchowlaw36_awake.mono _)
      | (with_reducible exact salchowref36_Balanced.mono _ _)
      | (with_reducible exact salchowref36_Cyclic.mono _ _)
      | (with_reducible exact salchowref36_SameRows.mono _ _ _)
      | (with_reducible exact LeO.refl _)
      | (with_reducible exact LeO.none _)
      | (with_reducible refine LeO.ite ?_ ?_)
      | (with_reducible refine LeO.bind ?_ (fun _ => ?_))
      | exact ih0 _ _ _ _ _ _
      | exact ih1 _ _ _ _
      | exact rotation_Balanced.mono _ _
      | exact rotation_Cyclic.mono _ _
      | exact salchowlaw36_awake.mono _
      | exact salchowref36_Balanced.mono _ _
      | exact salchowref36_Cyclic.mono _ _
      | exact salchowref36_SameRows.mono _ _ _
      | exact LeO.none _
      | refine LeO.ite ?_ ?_
      | refine LeO.bind ?_ (fun _ => ?_)
theorem salchowlaw36_RotationSquares.mono : ∀ a0 k, LeO (salchowlaw36_RotationSquares.f k a0) (salchowlaw36_RotationSquares.f (k + 1) a0) := by
  intro a0 k
  obtain ⟨ih0, ih1⟩ := salchowlaw36_RotationSquares.mono_l k
  unfold salchowlaw36_RotationSquares.f
  repeat' first
      | (with_reducible exact ih0 _ _ _ _ _ _)
      | (with_reducible exact ih1 _ _ _ _)
      | (with_reducible exact rotation_Balanced.mono _ _)
      | (with_reducible exact rotation_Cyclic.mono _ _)
      | (with_reducible exact salchowlaw36_awake.mono _)
      | (with_reducible exact salchowref36_Balanced.mono _ _)
      | (with_reducible exact salchowref36_Cyclic.mono _ _)
      | (with_reducible exact salchowref36_SameRows.mono _ _ _)
      | (with_reducible exact LeO.refl _)
      | (with_reducible exact LeO.none _)
      | (with_reducible refine LeO.ite ?_ ?_)
      | (with_reducible refine LeO.bind ?_ (fun _ => ?_))
      | exact ih0 _ _ _ _ _ _
      | exact ih1 _ _ _ _
      | exact rotation_Balanced.mono _ _
      | exact rotation_Cyclic.mono _ _
      | exact salchowlaw36_awake.mono _
      | exact salchowref36_Balanced.mono _ _
      | exact salchowref36_Cyclic.mono _ _
      | exact salchowref36_SameRows.mono _ _ _
      | exact LeO.none _
      | refine LeO.ite ?_ ?_
      | refine LeO.bind ?_ (fun _ => ?_)
set_option maxHeartbeats 8000000 in
set_option maxRecDepth 100000 in
theorem salchowlaw36_RotationSquares.calls (k : Nat) (a0 : Int) (r : Bool) (w : World) (h : salchowlaw36_RotationSquares.f k a0 = some r) :
    Calls Try.prog 3 #[.int .i64 a0] w fun e w' => e = .returned (.bool r) ∧ Below w.heap.size w w' := by
  have HB := Aside0.mk (Below.refl w.heap.size w)
  have H : ((salchowlaw36_awake.f k).bind fun t272 => (if t272 = true then ((rotation_Cyclic.f k a0).bind fun bt273 => ((rotation_Balanced.f k a0).bind fun bt277 => (if a0 < 1 then (salchowlaw36_RotationSquares.j0 k a0 bt273.1 bt273.2 bt277.1 bt277.2 true) else (salchowlaw36_RotationSquares.j0 k a0 bt273.1 bt273.2 bt277.1 bt277.2 (decide (a0 > 64)))))) else (some false))) = some r := h
  clear h
  replace H := Option.bind_eq_some_iff.mp H
  obtain ⟨t272, A20, H⟩ := H
  replace H : (if t272 = true then ((rotation_Cyclic.f k a0).bind fun bt273 => ((rotation_Balanced.f k a0).bind fun bt277 => (if a0 < 1 then (salchowlaw36_RotationSquares.j0 k a0 bt273.1 bt273.2 bt277.1 bt277.2 true) else (salchowlaw36_RotationSquares.j0 k a0 bt273.1 bt273.2 bt277.1 bt277.2 (decide (a0 > 64)))))) else (some false)) = some r := H
  have A2 := Aside0.mk A20
  clear A20
  by_cases c3 : t272 = true
  · subst c3
    have H1 : ((rotation_Cyclic.f k a0).bind fun bt273 => ((rotation_Balanced.f k a0).bind fun bt277 => (if a0 < 1 then (salchowlaw36_RotationSquares.j0 k a0 bt273.1 bt273.2 bt277.1 bt277.2 true) else (salchowlaw36_RotationSquares.j0 k a0 bt273.1 bt273.2 bt277.1 bt277.2 (decide (a0 > 64)))))) = some r := by rw [if_pos rfl] at H; exact H
    clear H
    have H := H1
    clear H1
    replace H := Option.bind_eq_some_iff.mp H
    obtain ⟨⟨t273, t274⟩, A40, H⟩ := H
    replace H : ((rotation_Balanced.f k a0).bind fun bt277 => (if a0 < 1 then (salchowlaw36_RotationSquares.j0 k a0 t273 t274 bt277.1 bt277.2 true) else (salchowlaw36_RotationSquares.j0 k a0 t273 t274 bt277.1 bt277.2 (decide (a0 > 64))))) = some r := H
    have A4 := Aside0.mk A40
    clear A40
    replace H := Option.bind_eq_some_iff.mp H
    obtain ⟨⟨t277, t278⟩, A50, H⟩ := H
    replace H : (if a0 < 1 then (salchowlaw36_RotationSquares.j0 k a0 t273 t274 t277 t278 true) else (salchowlaw36_RotationSquares.j0 k a0 t273 t274 t277 t278 (decide (a0 > 64)))) = some r := H
    have A5 := Aside0.mk A50
    clear A50
    have HC6 := Aside0.mk H
    clear H
    go_enter Try.func3, Try.ntmps3
    go_upto_region 5 with (first | ((with_reducible refine gate_callee (f := 13) rfl ?_); refine goesL_ (some 7) rfl rfl Try.func13 (by kernel_rfl) rfl #[] rfl (by (try simp only [List.map_toArray, List.map_cons, List.map_nil]); first | done | rfl | (simp only [List.length_drop, List.length_take]; rfl)) ?_; (with_reducible refine (salchowlaw36_awake.calls k  true _ A2.out).mono ?_); rintro e w7 ⟨rfl, hb⟩; refine ⟨_, rfl, ?_⟩; have n0_ := Aside0.mk (below_step (by repeat (first | (with_reducible first | exact HB.out | apply below_alloc | apply pw_below_drewN | apply below_drew1) | exact HB.out)) hb); clear HB; have HB := n0_; clear n0_; (try clear hb); (try clear hb2); (try clear hk); (try clear hi)) | ((with_reducible refine gate_callee (f := 14) rfl ?_); refine goesL_ (some 11) rfl rfl Try.func14 (by kernel_rfl) rfl #[.int .i64 a0] rfl (by (try simp only [List.map_toArray, List.map_cons, List.map_nil]); first | done | rfl | (simp only [List.length_drop, List.length_take]; rfl)) ?_; (with_reducible refine (rotation_Cyclic.calls k a0 t273 t274 _ A4.out).mono ?_); rintro e w8 ⟨v275, rfl, ho0, hb⟩; refine ⟨_, rfl, ?_⟩; have n0_ := Aside0.mk (Kd.S_lower ho0 (below_size (by repeat (first | (with_reducible first | exact HB.out | apply below_alloc | apply pw_below_drewN | apply below_drew1) | exact HB.out)))); have n1_ := Aside0.mk (below_step (by repeat (first | (with_reducible first | exact HB.out | apply below_alloc | apply pw_below_drewN | apply below_drew1) | exact HB.out)) hb); clear HB; have HO276 := n0_; have HB := n1_; clear n0_ n1_; (try clear hb); (try clear hb2); (try clear hk); (try clear hi); (try clear ho0)) | ((with_reducible refine gate_callee (f := 15) rfl ?_); refine goesL_ (some 16) rfl rfl Try.func15 (by kernel_rfl) rfl #[.int .i64 a0] rfl (by (try simp only [List.map_toArray, List.map_cons, List.map_nil]); first | done | rfl | (simp only [List.length_drop, List.length_take]; rfl)) ?_; (with_reducible refine (rotation_Balanced.calls k a0 t277 t278 _ A5.out).mono ?_); rintro e w9 ⟨v279, rfl, ho0, hb⟩; refine ⟨_, rfl, ?_⟩; have n0_ := Aside0.mk (Kd.S_elder' (by (with_reducible repeat (first | apply Kd.S_alloc | apply Kd.S_drewN | apply Kd.S_drew)); exact HO276.out) (Kd.S_base ho0) hb); have n1_ := Aside0.mk (Kd.S_lower (Kd.S_new' ho0 (Kd.S_lt (by (with_reducible repeat (first | apply Kd.S_alloc | apply Kd.S_drewN | apply Kd.S_drew)); exact HO276.out))) (below_size (by repeat (first | (with_reducible first | exact HB.out | apply below_alloc | apply pw_below_drewN | apply below_drew1) | exact HB.out)))); have n2_ := Aside0.mk (below_step (by repeat (first | (with_reducible first | exact HB.out | apply below_alloc | apply pw_below_drewN | apply below_drew1) | exact HB.out)) hb); clear HO276; clear HB; have HO276 := n0_; have HO280 := n1_; have HB := n2_; clear n0_ n1_ n2_; (try clear hb); (try clear hb2); (try clear hk); (try clear hi); (try clear ho0)))
    (try simp only [Act.put, List.setIfInBounds_toArray, List.set_cons_zero, List.set_cons_succ])
    go_cut [24] (fun v24 wc => ∃ (kq : Nat) (x24_5 : Bool), v24 = .bool x24_5 ∧ Aside0 (salchowlaw36_RotationSquares.j0 kq a0 t273 t274 t277 t278 x24_5 = some r) ∧ Aside0 (kq ≤ k) ∧ Aside0 (Kd.S (Kd.slice 3 (Kd.int .i64)) 31 wc w.heap.size (fun k_ => some k_ ≠ (v279 : Value).ownBlock) v275 t273) ∧ Aside0 (Kd.S (Kd.slice 3 (Kd.int .i64)) 31 wc w.heap.size (fun k_ => some k_ ≠ (v275 : Value).ownBlock) v279 t277) ∧ Aside0 (Below w.heap.size w wc))
    case first =>
      have H := HC6.out
      clear HC6
      by_cases c10 : a0 < 1
      · rw [if_pos c10] at H
        have c10b0 : decide (a0 < 1) = true := decide_eq_true c10
        clear c10
        (first | rw [c10b0] | (simp only [i64_w, i32_w]; rw [c10b0]) | skip)
        have H' := Aside0.mk H
        clear H
        go_wp2
        go_meet
        case rel => exact ⟨_, (true), (by first | rfl | (simp; done) | (simp [*]; done)), H', ⟨by first | omega | exact Nat.le_refl _⟩, ⟨by (with_reducible repeat (first | apply Kd.S_alloc | apply Kd.S_drewN | apply Kd.S_drew)); exact Kd.S_mono HO276.out (fun _ hk => hk.2)⟩, ⟨by (with_reducible repeat (first | apply Kd.S_alloc | apply Kd.S_drewN | apply Kd.S_drew)); exact Kd.S_mono HO280.out (fun _ hk => hk.2)⟩, ⟨by repeat (first | (with_reducible first | exact HB.out | apply below_alloc | apply pw_below_drewN | apply below_drew1) | exact HB.out)⟩⟩
      · rw [if_neg c10] at H
        have c10b0 : decide (a0 < 1) = false := decide_eq_false c10
        clear c10
        (first | rw [c10b0] | (simp only [i64_w, i32_w]; rw [c10b0]) | skip)
        have H' := Aside0.mk H
        clear H
        go_wp2
        go_meet
        case rel => exact ⟨_, (decide (a0 > 64)), (by first | rfl | (simp; done) | (simp [*]; done)), H', ⟨by first | omega | exact Nat.le_refl _⟩, ⟨by (with_reducible repeat (first | apply Kd.S_alloc | apply Kd.S_drewN | apply Kd.S_drew)); exact Kd.S_mono HO276.out (fun _ hk => hk.2)⟩, ⟨by (with_reducible repeat (first | apply Kd.S_alloc | apply Kd.S_drewN | apply Kd.S_drew)); exact Kd.S_mono HO280.out (fun _ hk => hk.2)⟩, ⟨by repeat (first | (with_reducible first | exact HB.out | apply below_alloc | apply pw_below_drewN | apply below_drew1) | exact HB.out)⟩⟩
    case rest =>
      clear HC6
      try clear c1
      try clear p2
      try clear c3
      try clear c10
      try clear c10b0
      obtain ⟨kq, x24_5, rfl, HA, HJ5, HO_3, HO_5, HB⟩ := hcut
      cases kq with
      | zero => exact absurd HA.out (by simp [salchowlaw36_RotationSquares.j0])
      | succ kj5 =>
        have H := HA.out
        clear HA
        simp only [salchowlaw36_RotationSquares.j0] at H
        by_cases c11 : x24_5 = true
        · subst c11
          have H1 : (if t274 = 1 then (some (t278 == 1)) else (some false)) = some r := by rw [if_pos rfl] at H; exact H
          clear H
          have H := H1
          clear H1
          by_cases c12 : t274 = 1
          · rw [if_pos c12] at H
            have c12b0 : (t274 == 1) = true := beq_iff_eq.mpr c12
            have c12b1 : (t274 != 1) = false := bne_eq_false_iff_eq.mpr c12
            clear c12
            obtain rfl := Option.some.inj H
            go_wp2
            go_ret
            exact ⟨by first | rfl | (simp [errW_none, errW_some] <;> rfl) | (simp [*, errW_none, errW_some] <;> rfl), by repeat (first | (with_reducible first | exact HB.out | apply below_alloc | apply pw_below_drewN | apply below_drew1) | exact HB.out)⟩
          · rw [if_neg c12] at H
            have c12b0 : (t274 == 1) = false := beq_eq_false_iff_ne.mpr c12
            have c12b1 : (t274 != 1) = true := bne_iff_ne.mpr c12
            obtain rfl := Option.some.inj H
            go_wp2
            go_ret
            exact ⟨by first | rfl | (simp [errW_none, errW_some] <;> rfl) | (simp [*, errW_none, errW_some] <;> rfl), by repeat (first | (with_reducible first | exact HB.out | apply below_alloc | apply pw_below_drewN | apply below_drew1) | exact HB.out)⟩
        · replace c11 := Bool.eq_false_iff.mpr c11
          subst c11
          have H1 : (if t274 = 0 then ((salchowref36_Cyclic.f kj5 a0).bind fun t281 => ((salchowref36_SameRows.f kj5 t273 t281).bind fun t284 => (salchowlaw36_RotationSquares.j1 kj5 a0 t277 t278 (!t284)))) else (salchowlaw36_RotationSquares.j1 kj5 a0 t277 t278 true)) = some r := by rw [if_neg (show ¬ (false = true) by decide)] at H; exact H
          clear H
          have H := H1
          clear H1
          have HC13 := Aside0.mk H
          clear H
          go_upto_region 7 with (fail)
          go_cut [39] (fun v39 wc => ∃ (kq : Nat) (x39_12 : Bool), v39 = .bool x39_12 ∧ Aside0 (salchowlaw36_RotationSquares.j1 kq a0 t277 t278 x39_12 = some r) ∧ Aside0 (kq ≤ kj5) ∧ Aside0 (Kd.S (Kd.slice 3 (Kd.int .i64)) 31 wc w.heap.size (fun _ => True) v279 t277) ∧ Aside0 (Below w.heap.size w wc))
          case first =>
            have H := HC13.out
            clear HC13
            by_cases c14 : t274 = 0
            · rw [if_pos c14] at H
              have c14b0 : (t274 == 0) = true := beq_iff_eq.mpr c14
              have c14b1 : (t274 != 0) = false := bne_eq_false_iff_eq.mpr c14
              clear c14
              (first | rw [c14b0] | (simp only [i64_w, i32_w]; rw [c14b0]) | skip)
              replace H := Option.bind_eq_some_iff.mp H
              obtain ⟨t281, A150, H⟩ := H
              replace H : ((salchowref36_SameRows.f kj5 t273 t281).bind fun t284 => (salchowlaw36_RotationSquares.j1 kj5 a0 t277 t278 (!t284))) = some r := H
              have A15 := Aside0.mk A150
              clear A150
              replace H := Option.bind_eq_some_iff.mp H
              obtain ⟨t284, A160, H⟩ := H
              replace H : (salchowlaw36_RotationSquares.j1 kj5 a0 t277 t278 (!t284)) = some r := H
              have A16 := Aside0.mk A160
              clear A160
              have H' := Aside0.mk H
              clear H
              go_wp2_with (first | (go_at_call 17; (with_reducible refine (salchowref36_Cyclic.calls kj5 a0 t281 _ A15.out).mono ?_); rintro e w17 ⟨v282, rfl, ho0, hb⟩; have n0_ := Aside0.mk (Kd.S_elder' (by (with_reducible repeat (first | apply Kd.S_alloc | apply Kd.S_drewN | apply Kd.S_drew)); exact HO_3.out) (Kd.S_base ho0) hb); have n1_ := Aside0.mk (Kd.S_elder' (by (with_reducible repeat (first | apply Kd.S_alloc | apply Kd.S_drewN | apply Kd.S_drew)); exact HO_5.out) (Kd.S_base ho0) hb); have n2_ := Aside0.mk (Kd.S_lower (Kd.S_new' (Kd.S_new' ho0 (Kd.S_lt (by (with_reducible repeat (first | apply Kd.S_alloc | apply Kd.S_drewN | apply Kd.S_drew)); exact HO_3.out))) (Kd.S_lt (by (with_reducible repeat (first | apply Kd.S_alloc | apply Kd.S_drewN | apply Kd.S_drew)); exact HO_5.out))) (below_size (by repeat (first | (with_reducible first | exact HB.out | apply below_alloc | apply pw_below_drewN | apply below_drew1) | exact HB.out)))); have n3_ := Aside0.mk (below_step (by repeat (first | (with_reducible first | exact HB.out | apply below_alloc | apply pw_below_drewN | apply below_drew1) | exact HB.out)) hb); clear HO_3; clear HO_5; clear HB; have HO_3 := n0_; have HO_5 := n1_; have HO283 := n2_; have HB := n3_; clear n0_ n1_ n2_ n3_; (try clear hb); (try clear hb2); (try clear hk); (try clear hi); (try clear ho0); obtain ⟨Ao18, co18, eo18⟩ := Kd.S_slice HO_3.out; subst eo18; obtain ⟨Ao19, co19, eo19⟩ := Kd.S_slice HO283.out; subst eo19) | (go_at_call 16; (with_reducible refine (salchowref36_SameRows.calls kj5 _ _ t273 _ _ t281 t284 _ ?side1 ?side2 ?side3 ?side4 A16.out).mono ?_); (case side1 => repeat (first | exact (Kd.S_reads' HO_3.out).2.2 | (with_reducible refine Kd.C_alloc ?_ _) | (with_reducible refine Kd.C_drewN ?_ _) | (with_reducible refine Kd.C_drew ?_))); (case side2 => exact (Kd.S_reads' HO_3.out).2.1); (case side3 => repeat (first | exact (Kd.S_reads' HO283.out).2.2 | (with_reducible refine Kd.C_alloc ?_ _) | (with_reducible refine Kd.C_drewN ?_ _) | (with_reducible refine Kd.C_drew ?_))); (case side4 => exact (Kd.S_reads' HO283.out).2.1); rintro e w' ⟨rfl, ⟨nd, rfl⟩⟩))
              go_meet
              case rel => exact ⟨_, (!t284), (by first | rfl | (simp; done) | (simp [*]; done)), H', ⟨by have := HJ5.out; first | omega | exact Nat.le_refl _⟩, ⟨by (with_reducible repeat (first | apply Kd.S_alloc | apply Kd.S_drewN | apply Kd.S_drew)); exact Kd.S_mono HO_5.out (fun _ hk => trivial)⟩, ⟨by repeat (first | (with_reducible first | exact HB.out | apply below_alloc | apply pw_below_drewN | apply below_drew1) | exact HB.out)⟩⟩
            · rw [if_neg c14] at H
              have c14b0 : (t274 == 0) = false := beq_eq_false_iff_ne.mpr c14
              have c14b1 : (t274 != 0) = true := bne_iff_ne.mpr c14
              (first | rw [c14b0] | (simp only [i64_w, i32_w]; rw [c14b0]) | skip)
              have H' := Aside0.mk H
              clear H
              go_wp2
              go_meet
              case rel => exact ⟨_, (true), (by first | rfl | (simp; done) | (simp [*]; done)), H', ⟨by have := HJ5.out; first | omega | exact Nat.le_refl _⟩, ⟨by (with_reducible repeat (first | apply Kd.S_alloc | apply Kd.S_drewN | apply Kd.S_drew)); exact Kd.S_mono HO_5.out (fun _ hk => trivial)⟩, ⟨by repeat (first | (with_reducible first | exact HB.out | apply below_alloc | apply pw_below_drewN | apply below_drew1) | exact HB.out)⟩⟩
          case rest =>
            clear HC13
            try clear c1
            try clear p2
            try clear c3
            try clear c10
            try clear c10b0
            try clear c11
            try clear c12
            try clear c12b0
            try clear c12b1
            try clear c13
            try clear c14
            try clear c14b0
            try clear c14b1
            try clear c15
            try clear p2
            obtain ⟨kq, x39_12, rfl, HA, HJ12, HO_5, HB⟩ := hcut
            cases kq with
            | zero => exact absurd HA.out (by simp [salchowlaw36_RotationSquares.j1])
            | succ kj12 =>
              have H := HA.out
              clear HA
              simp only [salchowlaw36_RotationSquares.j1] at H
              by_cases c20 : x39_12 = true
              · subst c20
                have H1 : (some false) = some r := by rw [if_pos rfl] at H; exact H
                clear H
                have H := H1
                clear H1
                obtain rfl := Option.some.inj H
                go_wp2
                go_ret
                exact ⟨by first | rfl | (simp [errW_none, errW_some] <;> rfl) | (simp [*, errW_none, errW_some] <;> rfl), by repeat (first | (with_reducible first | exact HB.out | apply below_alloc | apply pw_below_drewN | apply below_drew1) | exact HB.out)⟩
              · replace c20 := Bool.eq_false_iff.mpr c20
                subst c20
                have H1 : (if (Int.tmod a0 2) = 1 then (some (t278 == 8)) else (if t278 = 0 then ((salchowref36_Balanced.f kj12 a0).bind fun t285 => ((salchowref36_SameRows.f kj12 t277 t285).bind fun t288 => (some t288))) else (some false))) = some r := by rw [if_neg (show ¬ (false = true) by decide)] at H; exact H
                clear H
                have H := H1
                clear H1
                by_cases c21 : (Int.tmod a0 2) = 1
                · rw [if_pos c21] at H
                  have c21b0 : ((Int.tmod a0 2) == 1) = true := beq_iff_eq.mpr c21
                  have c21b1 : ((Int.tmod a0 2) != 1) = false := bne_eq_false_iff_eq.mpr c21
                  clear c21
                  obtain rfl := Option.some.inj H
                  go_wp2
                  go_ret
                  exact ⟨by first | rfl | (simp [errW_none, errW_some] <;> rfl) | (simp [*, errW_none, errW_some] <;> rfl), by repeat (first | (with_reducible first | exact HB.out | apply below_alloc | apply pw_below_drewN | apply below_drew1) | exact HB.out)⟩
                · rw [if_neg c21] at H
                  have c21b0 : ((Int.tmod a0 2) == 1) = false := beq_eq_false_iff_ne.mpr c21
                  have c21b1 : ((Int.tmod a0 2) != 1) = true := bne_iff_ne.mpr c21
                  by_cases c22 : t278 = 0
                  · rw [if_pos c22] at H
                    have c22b0 : (t278 == 0) = true := beq_iff_eq.mpr c22
                    have c22b1 : (t278 != 0) = false := bne_eq_false_iff_eq.mpr c22
                    clear c22
                    replace H := Option.bind_eq_some_iff.mp H
                    obtain ⟨t285, A230, H⟩ := H
                    replace H : ((salchowref36_SameRows.f kj12 t277 t285).bind fun t288 => (some t288)) = some r := H
                    have A23 := Aside0.mk A230
                    clear A230
                    replace H := Option.bind_eq_some_iff.mp H
                    obtain ⟨t288, A240, H⟩ := H
                    replace H : (some t288) = some r := H
                    have A24 := Aside0.mk A240
                    clear A240
                    obtain rfl := Option.some.inj H
                    go_wp2_with (first | (go_at_call 18; (with_reducible refine (salchowref36_Balanced.calls kj12 a0 t285 _ A23.out).mono ?_); rintro e w25 ⟨v286, rfl, ho0, hb⟩; have n0_ := Aside0.mk (Kd.S_elder' (by (with_reducible repeat (first | apply Kd.S_alloc | apply Kd.S_drewN | apply Kd.S_drew)); exact HO_5.out) (Kd.S_base ho0) hb); have n1_ := Aside0.mk (Kd.S_lower (Kd.S_new' ho0 (Kd.S_lt (by (with_reducible repeat (first | apply Kd.S_alloc | apply Kd.S_drewN | apply Kd.S_drew)); exact HO_5.out))) (below_size (by repeat (first | (with_reducible first | exact HB.out | apply below_alloc | apply pw_below_drewN | apply below_drew1) | exact HB.out)))); have n2_ := Aside0.mk (below_step (by repeat (first | (with_reducible first | exact HB.out | apply below_alloc | apply pw_below_drewN | apply below_drew1) | exact HB.out)) hb); clear HO_5; clear HB; have HO_5 := n0_; have HO287 := n1_; have HB := n2_; clear n0_ n1_ n2_; (try clear hb); (try clear hb2); (try clear hk); (try clear hi); (try clear ho0); obtain ⟨Ao26, co26, eo26⟩ := Kd.S_slice HO_5.out; subst eo26; obtain ⟨Ao27, co27, eo27⟩ := Kd.S_slice HO287.out; subst eo27) | (go_at_call 16; (with_reducible refine (salchowref36_SameRows.calls kj12 _ _ t277 _ _ t285 t288 _ ?side1 ?side2 ?side3 ?side4 A24.out).mono ?_); (case side1 => repeat (first | exact (Kd.S_reads' HO_5.out).2.2 | (with_reducible refine Kd.C_alloc ?_ _) | (with_reducible refine Kd.C_drewN ?_ _) | (with_reducible refine Kd.C_drew ?_))); (case side2 => exact (Kd.S_reads' HO_5.out).2.1); (case side3 => repeat (first | exact (Kd.S_reads' HO287.out).2.2 | (with_reducible refine Kd.C_alloc ?_ _) | (with_reducible refine Kd.C_drewN ?_ _) | (with_reducible refine Kd.C_drew ?_))); (case side4 => exact (Kd.S_reads' HO287.out).2.1); rintro e w' ⟨rfl, ⟨nd, rfl⟩⟩))
                    go_ret
                    exact ⟨by first | rfl | (simp [errW_none, errW_some] <;> rfl) | (simp [*, errW_none, errW_some] <;> rfl), by repeat (first | (with_reducible first | exact HB.out | apply below_alloc | apply pw_below_drewN | apply below_drew1) | exact HB.out)⟩
                  · rw [if_neg c22] at H
                    have c22b0 : (t278 == 0) = false := beq_eq_false_iff_ne.mpr c22
                    have c22b1 : (t278 != 0) = true := bne_iff_ne.mpr c22
                    obtain rfl := Option.some.inj H
                    go_wp2
                    go_ret
                    exact ⟨by first | rfl | (simp [errW_none, errW_some] <;> rfl) | (simp [*, errW_none, errW_some] <;> rfl), by repeat (first | (with_reducible first | exact HB.out | apply below_alloc | apply pw_below_drewN | apply below_drew1) | exact HB.out)⟩
  · replace c3 := Bool.eq_false_iff.mpr c3
    subst c3
    have H1 : (some false) = some r := by rw [if_neg (show ¬ (false = true) by decide)] at H; exact H
    clear H
    have H := H1
    clear H1
    obtain rfl := Option.some.inj H
    go_enter Try.func3, Try.ntmps3
    go_wp2_with (first | ((with_reducible refine gate_callee (f := 13) rfl ?_); refine goesL_ (some 7) rfl rfl Try.func13 (by kernel_rfl) rfl #[] rfl (by (try simp only [List.map_toArray, List.map_cons, List.map_nil]); first | done | rfl | (simp only [List.length_drop, List.length_take]; rfl)) ?_; (with_reducible refine (salchowlaw36_awake.calls k  false _ A2.out).mono ?_); rintro e w28 ⟨rfl, hb⟩; refine ⟨_, rfl, ?_⟩; have n0_ := Aside0.mk (below_step (by repeat (first | (with_reducible first | exact HB.out | apply below_alloc | apply pw_below_drewN | apply below_drew1) | exact HB.out)) hb); clear HB; have HB := n0_; clear n0_; (try clear hb); (try clear hb2); (try clear hk); (try clear hi)))
    go_ret
    exact ⟨by first | rfl | (simp [errW_none, errW_some] <;> rfl) | (simp [*, errW_none, errW_some] <;> rfl), by repeat (first | (with_reducible first | exact HB.out | apply below_alloc | apply pw_below_drewN | apply below_drew1) | exact HB.out)⟩

/-- THE ONE PURE STATEMENT of salchowlaw36_RotationSquares: yours. -/
def salchowlaw36_RotationSquares.Pure : Prop := ∀ (a0 : Int), (Lit.int .i64 a0).wf = true → ∃ k, salchowlaw36_RotationSquares.f k a0 = some true
theorem salchowlaw36_RotationSquares.walk (P : salchowlaw36_RotationSquares.Pure) (a0 : Int) (w : World) (w0 : (Lit.int .i64 a0).wf = true) :
    Calls Try.prog 3 #[.int .i64 a0] w fun e w' => e = .returned (.bool true) ∧ Below w.heap.size w w' := by
  obtain ⟨k, h⟩ := P a0 w0
  refine (salchowlaw36_RotationSquares.calls k a0 true w h).mono ?_
  rintro e w' ⟨rfl, hd⟩
  exact ⟨rfl, hd⟩

end Go.Proofs.Ytaodpgblleiiaaa.P
