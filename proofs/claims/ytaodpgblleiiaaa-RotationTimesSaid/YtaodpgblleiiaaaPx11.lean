-- out of a program (drive.sh), by way of the translation's print
import Derived.Test.YtaodpgblleiiaaaPx0
import Derived.Test.YtaodpgblleiiaaaPx1
import Derived.Test.YtaodpgblleiiaaaPx4
import Derived.Test.YtaodpgblleiiaaaPx8
import Derived.Test.YtaodpgblleiiaaaPx9
import Derived.Test.YtaodpgblleiiaaaPx10
namespace Go.Proofs.Ytaodpgblleiiaaa.P
open Go.RowKit Go.Proofs.YtaodpgblleiiaaaW.PrintWords Go.Proofs.YtaodpgblleiiaaaW.PrintLast Go.Proofs.YtaodpgblleiiaaaW.PrintMore
attribute [local go_sem] max2_int min2_int max_two min_two max_three min_three max_four min_four   -- for this text's walks alone
set_option linter.unusedVariables false
set_option linter.unusedSimpArgs false

/-! ### salchowlaw36_RotationTimes: function 7 -/
mutual
def salchowlaw36_RotationTimes.j0 : Nat → List (List Int) → List Int → List Int → Int → Bool → Option (Bool)
  | 0, _, _, _, _, _ => none
  | k + 1, x0, x1, x2, x3, x25 => if x25 = true then (some true) else ((rotation_Timetable.f k x0 x1 x2 x3).bind fun bt396 => ((salchowref36_Latin.f k x0).bind fun t400 => (if t400 = true then (if (x1.length : Int) = (x0.length : Int) then (salchowlaw36_RotationTimes.j1 k x0 x1 x2 x3 bt396.1 bt396.2 ((x2.length : Int) != (x0.length : Int))) else (salchowlaw36_RotationTimes.j1 k x0 x1 x2 x3 bt396.1 bt396.2 true)) else (salchowlaw36_RotationTimes.j1 k x0 x1 x2 x3 bt396.1 bt396.2 true))))
def salchowlaw36_RotationTimes.j1 : Nat → List (List Int) → List Int → List Int → Int → List Int → Int → Bool → Option (Bool)
  | 0, _, _, _, _, _, _, _ => none
  | k + 1, x0, x1, x2, x3, x9, x10, x50 => if x50 = true then (some (x10 == 1)) else ((salchowref36_Range.f k x1 x2 x3).bind fun t401 => (if t401 = true then (if x10 = 0 then ((salchowref36_Timetable.f k x0 x1 x2 x3).bind fun t402 => ((salchowref36_Same.f k x9 t402).bind fun t405 => (some t405))) else (some false)) else (some (x10 == 5))))
end
def salchowlaw36_RotationTimes.f (k : Nat) (l0 : List (List Int)) (l1 : List Int) (l2 : List Int) (a3 : Int) : Option (Bool) := (salchowlaw36_awake.f k).bind fun t394 => (if t394 = true then ((salchowref36_Small.f k l0).bind fun t395 => (if t395 = true then (if (l1.length : Int) > 20 then (salchowlaw36_RotationTimes.j0 k l0 l1 l2 a3 true) else (salchowlaw36_RotationTimes.j0 k l0 l1 l2 a3 (decide ((l2.length : Int) > 20)))) else (salchowlaw36_RotationTimes.j0 k l0 l1 l2 a3 true))) else (some false))
theorem salchowlaw36_RotationTimes.mono_l : ∀ k, (∀ y0 y1 y2 y3 y4, LeO (salchowlaw36_RotationTimes.j0 k y0 y1 y2 y3 y4) (salchowlaw36_RotationTimes.j0 (k + 1) y0 y1 y2 y3 y4)) ∧ (∀ y0 y1 y2 y3 y4 y5 y6, LeO (salchowlaw36_RotationTimes.j1 k y0 y1 y2 y3 y4 y5 y6) (salchowlaw36_RotationTimes.j1 (k + 1) y0 y1 y2 y3 y4 y5 y6))
  | 0 => ⟨fun _ _ _ _ _ r h => by simp [salchowlaw36_RotationTimes.j0] at h, fun _ _ _ _ _ _ _ r h => by simp [salchowlaw36_RotationTimes.j1] at h⟩
  | k + 1 => by
    obtain ⟨ih0, ih1⟩ := salchowlaw36_RotationTimes.mono_l k
    refine ⟨?_, ?_⟩
    · intro y0 y1 y2 y3 y4
      unfold salchowlaw36_RotationTimes.j0
      repeat' first
      | (with_reducible exact ih0 _ _ _ _ _)
      | (with_reducible exact ih1 _ _ _ _ _ _ _)
      | (with_reducible exact rotation_Timetable.mono _ _ _ _ _)
      | (with_reducible exact salchowlaw36_awake.mono _)
      | (with_reducible exact salchowref36_Latin.mono _ _)
      | (with_reducible exact salchowref36_Range.mono _ _ _ _)
      | (with_reducible exact salchowref36_Same.mono _ _ _)
      | (with_reducible exact salchowref36_Small.mono _ _)
      | (with_reducible exact salchowref36_Timetable.mono _ _ _ _ _)
      | (with_reducible exact LeO.refl _)
      | (with_reducible exact LeO.none _)
      | (with_reducible refine LeO.ite ?_ ?_)
      | (with_reducible refine LeO.bind ?_ (fun _ => ?_))
      | exact ih0 _ _ _ _ _
      | exact ih1 _ _ _ _ _ _ _
      | exact rotation_Timetable.mono _ _ _ _ _
      | exact salchowlaw36_awake.mono _
      | exact salchowref36_Latin.mono _ _
      | exact salchowref36_Range.mono _ _ _ _
      | exact salchowref36_Same.mono _ _ _
      | exact salchowref36_Small.mono _ _
      | exact salchowref36_Timetable.mono _ _ _ _ _
      | exact LeO.none _
      | refine LeO.ite ?_ ?_
      | refine LeO.bind ?_ (fun _ => ?_)
    · intro y0 y1 y2 y3 y4 y5 y6
      unfold salchowlaw36_RotationTimes.j1
      repeat' first
      | (with_reducible exact ih0 _ _ _ _ _)
      | (with_reducible exact ih1 _ _ _ _ _ _ _)
      | (with_reducible exact rotation_Timetable.mono _ _ _ _ _)
      | (with_reducible exact salchowlaw36_awake.mono _)
      | (with_reducible exact salchowref36_Latin.mono _ _)
      | (with_reducible exact salchowref36_Range.mono _ _ _ _)
      | (with_reducible exact salchowref36_Same.mono _ _ _)
      | (with_reducible exact salchowref36_Small.mono _ _)
      | (with_reducible exact salchowref36_Timetable.mono _ _ _ _ _)
      | (with_reducible exact LeO.refl _)
      | (with_reducible exact LeO.none _)
      | (with_reducible refine LeO.ite ?_ ?_)
      | (with_reducible refine LeO.bind ?_ (fun _ => ?_))
      | exact ih0 _ _ _ _ _
      | exact ih1 _ _ _ _ _ _ _
      | exact rotation_Timetable.mono _ _ _ _ _
      | exact salchowlaw36_awake.mono _
      | exact salchowref36_Latin.mono _ _
      | exact salchowref36_Range.mono _ _ _ _
      | exact salchowref36_Same.mono _ _ _
      | exact salchowref36_Small.mono _ _
      | exact salchowref36_Timetable.mono _ _ _ _ _
      | exact LeO.none _
      | refine LeO.ite ?_ ?_
      | refine LeO.bind ?_ (fun _ => ?_)
theorem salchowlaw36_RotationTimes.mono : ∀ a0 a1 a2 a3 k, LeO (salchowlaw36_RotationTimes.f k a0 a1 a2 a3) (salchowlaw36_RotationTimes.f (k + 1) a0 a1 a2 a3) := by
  intro a0 a1 a2 a3 k
  obtain ⟨ih0, ih1⟩ := salchowlaw36_RotationTimes.mono_l k
  unfold salchowlaw36_RotationTimes.f
  repeat' first
      | (with_reducible exact ih0 _ _ _ _ _)
      | (with_reducible exact ih1 _ _ _ _ _ _ _)
      | (with_reducible exact rotation_Timetable.mono _ _ _ _ _)
      | (with_reducible exact salchowlaw36_awake.mono _)
      | (with_reducible exact salchowref36_Latin.mono _ _)
      | (with_reducible exact salchowref36_Range.mono _ _ _ _)
      | (with_reducible exact salchowref36_Same.mono _ _ _)
      | (with_reducible exact salchowref36_Small.mono _ _)
      | (with_reducible exact salchowref36_Timetable.mono _ _ _ _ _)
      | (with_reducible exact LeO.refl _)
      | (with_reducible exact LeO.none _)
      | (with_reducible refine LeO.ite ?_ ?_)
      | (with_reducible refine LeO.bind ?_ (fun _ => ?_))
      | exact ih0 _ _ _ _ _
      | exact ih1 _ _ _ _ _ _ _
      | exact rotation_Timetable.mono _ _ _ _ _
      | exact salchowlaw36_awake.mono _
      | exact salchowref36_Latin.mono _ _
      | exact salchowref36_Range.mono _ _ _ _
      | exact salchowref36_Same.mono _ _ _
      | exact salchowref36_Small.mono _ _
      | exact salchowref36_Timetable.mono _ _ _ _ _
      | exact LeO.none _
      | refine LeO.ite ?_ ?_
      | refine LeO.bind ?_ (fun _ => ?_)
set_option maxHeartbeats 8000000 in
set_option maxRecDepth 100000 in
theorem salchowlaw36_RotationTimes.calls (k : Nat) (A0 : Option Addr) (c0 : Nat) (l0 : List (List Int)) (A1 : Option Addr) (c1 : Nat) (l1 : List Int) (A2 : Option Addr) (c2 : Nat) (l2 : List Int) (a3 : Int) (r : Bool) (w : World) (hr0 : Kd.C (Kd.slice 3 (Kd.int .i64)) w A0 l0.length l0) (hc0 : l0.length ≤ c0) (hr1 : Kd.C (Kd.int .i64) w A1 l1.length l1) (hc1 : l1.length ≤ c1) (hr2 : Kd.C (Kd.int .i64) w A2 l2.length l2) (hc2 : l2.length ≤ c2) (h : salchowlaw36_RotationTimes.f k l0 l1 l2 a3 = some r) :
    Calls Try.prog 7 #[.slice A0 l0.length c0, .slice A1 l1.length c1, .slice A2 l2.length c2, .int .i64 a3] w fun e w' => e = .returned (.bool r) ∧ Below w.heap.size w w' := by
  have HR0 := Aside0.mk hr0
  have HC0 := Aside0.mk hc0
  clear hr0 hc0
  have HR1 := Aside0.mk hr1
  have HC1 := Aside0.mk hc1
  clear hr1 hc1
  have HR2 := Aside0.mk hr2
  have HC2 := Aside0.mk hc2
  clear hr2 hc2
  have HB := Aside0.mk (Below.refl w.heap.size w)
  have H : ((salchowlaw36_awake.f k).bind fun t394 => (if t394 = true then ((salchowref36_Small.f k l0).bind fun t395 => (if t395 = true then (if (l1.length : Int) > 20 then (salchowlaw36_RotationTimes.j0 k l0 l1 l2 a3 true) else (salchowlaw36_RotationTimes.j0 k l0 l1 l2 a3 (decide ((l2.length : Int) > 20)))) else (salchowlaw36_RotationTimes.j0 k l0 l1 l2 a3 true))) else (some false))) = some r := h
  clear h
  replace H := Option.bind_eq_some_iff.mp H
  obtain ⟨t394, A50, H⟩ := H
  replace H : (if t394 = true then ((salchowref36_Small.f k l0).bind fun t395 => (if t395 = true then (if (l1.length : Int) > 20 then (salchowlaw36_RotationTimes.j0 k l0 l1 l2 a3 true) else (salchowlaw36_RotationTimes.j0 k l0 l1 l2 a3 (decide ((l2.length : Int) > 20)))) else (salchowlaw36_RotationTimes.j0 k l0 l1 l2 a3 true))) else (some false)) = some r := H
  have A5 := Aside0.mk A50
  clear A50
  by_cases c6 : t394 = true
  · subst c6
    have H1 : ((salchowref36_Small.f k l0).bind fun t395 => (if t395 = true then (if (l1.length : Int) > 20 then (salchowlaw36_RotationTimes.j0 k l0 l1 l2 a3 true) else (salchowlaw36_RotationTimes.j0 k l0 l1 l2 a3 (decide ((l2.length : Int) > 20)))) else (salchowlaw36_RotationTimes.j0 k l0 l1 l2 a3 true))) = some r := by rw [if_pos rfl] at H; exact H
    clear H
    have H := H1
    clear H1
    have HC7 := Aside0.mk H
    clear H
    go_enter Try.func7, Try.ntmps7
    go_upto_region 3 with (first | ((with_reducible refine gate_callee (f := 13) rfl ?_); refine goesL_ (some 11) rfl rfl Try.func13 (by kernel_rfl) rfl #[] rfl (by (try simp only [List.map_toArray, List.map_cons, List.map_nil]); first | done | rfl | (simp only [List.length_drop, List.length_take]; rfl)) ?_; (with_reducible refine (salchowlaw36_awake.calls k  true _ A5.out).mono ?_); rintro e w8 ⟨rfl, hb⟩; refine ⟨_, rfl, ?_⟩; have n0_ := Aside0.mk (below_step (by repeat (first | (with_reducible first | exact HB.out | apply below_alloc | apply pw_below_drewN | apply below_drew1) | exact HB.out)) hb); clear HB; have HB := n0_; clear n0_; (try clear hb); (try clear hb2); (try clear hk); (try clear hi)))
    (try simp only [Act.put, List.setIfInBounds_toArray, List.set_cons_zero, List.set_cons_succ])
    go_cut [25] (fun v25 wc => ∃ (kq : Nat) (x25_6 : Bool), v25 = .bool x25_6 ∧ Aside0 (salchowlaw36_RotationTimes.j0 kq l0 l1 l2 a3 x25_6 = some r) ∧ Aside0 (kq ≤ k) ∧ Aside0 (Below w.heap.size w wc))
    case first =>
      have H := HC7.out
      clear HC7
      replace H := Option.bind_eq_some_iff.mp H
      obtain ⟨t395, A90, H⟩ := H
      replace H : (if t395 = true then (if (l1.length : Int) > 20 then (salchowlaw36_RotationTimes.j0 k l0 l1 l2 a3 true) else (salchowlaw36_RotationTimes.j0 k l0 l1 l2 a3 (decide ((l2.length : Int) > 20)))) else (salchowlaw36_RotationTimes.j0 k l0 l1 l2 a3 true)) = some r := H
      have A9 := Aside0.mk A90
      clear A90
      by_cases c10 : t395 = true
      · subst c10
        have H1 : (if (l1.length : Int) > 20 then (salchowlaw36_RotationTimes.j0 k l0 l1 l2 a3 true) else (salchowlaw36_RotationTimes.j0 k l0 l1 l2 a3 (decide ((l2.length : Int) > 20)))) = some r := by rw [if_pos rfl] at H; exact H
        clear H
        have H := H1
        clear H1
        by_cases c11 : (l1.length : Int) > 20
        · rw [if_pos c11] at H
          have c11b0 : decide (20 < (l1.length : Int)) = true := decide_eq_true c11
          have c11b1 : decide (20 < l1.length) = true := decide_eq_true (by omega)
          clear c11
          (first | rw [c11b0] | (simp only [i64_w, i32_w]; rw [c11b0]) | skip)
          have H' := Aside0.mk H
          clear H
          go_wp2_with (first | ((with_reducible refine gate_callee (f := 23) rfl ?_); refine goesL_ (some 14) rfl rfl Try.func23 (by kernel_rfl) rfl #[.slice A0 l0.length c0] rfl (by (try simp only [List.map_toArray, List.map_cons, List.map_nil]); first | done | rfl | (simp only [List.length_drop, List.length_take]; rfl)) ?_; (with_reducible refine (salchowref36_Small.calls k _ _ l0 true _ ?side1 ?side2 A9.out).mono ?_); (case side1 => repeat (first | exact (Kd.C_below HR0.out HB.out) | (with_reducible refine Kd.C_alloc ?_ _) | (with_reducible refine Kd.C_drewN ?_ _) | (with_reducible refine Kd.C_drew ?_))); (case side2 => exact HC0.out); rintro e w' ⟨rfl, ⟨nd, rfl⟩⟩; refine ⟨_, rfl, ?_⟩))
          go_meet
          case rel => exact ⟨_, (true), (by first | rfl | (simp; done) | (simp [*]; done)), H', ⟨by first | omega | exact Nat.le_refl _⟩, ⟨by repeat (first | (with_reducible first | exact HB.out | apply below_alloc | apply pw_below_drewN | apply below_drew1) | exact HB.out)⟩⟩
        · rw [if_neg c11] at H
          have c11b0 : decide (20 < (l1.length : Int)) = false := decide_eq_false c11
          have c11b1 : decide (20 < l1.length) = false := decide_eq_false (by omega)
          clear c11
          (first | rw [c11b0] | (simp only [i64_w, i32_w]; rw [c11b0]) | skip)
          have H' := Aside0.mk H
          clear H
          go_wp2_with (first | ((with_reducible refine gate_callee (f := 23) rfl ?_); refine goesL_ (some 14) rfl rfl Try.func23 (by kernel_rfl) rfl #[.slice A0 l0.length c0] rfl (by (try simp only [List.map_toArray, List.map_cons, List.map_nil]); first | done | rfl | (simp only [List.length_drop, List.length_take]; rfl)) ?_; (with_reducible refine (salchowref36_Small.calls k _ _ l0 true _ ?side1 ?side2 A9.out).mono ?_); (case side1 => repeat (first | exact (Kd.C_below HR0.out HB.out) | (with_reducible refine Kd.C_alloc ?_ _) | (with_reducible refine Kd.C_drewN ?_ _) | (with_reducible refine Kd.C_drew ?_))); (case side2 => exact HC0.out); rintro e w' ⟨rfl, ⟨nd, rfl⟩⟩; refine ⟨_, rfl, ?_⟩))
          go_meet
          case rel => exact ⟨_, (decide ((l2.length : Int) > 20)), (by first | rfl | (simp; done) | (simp [*]; done)), H', ⟨by first | omega | exact Nat.le_refl _⟩, ⟨by repeat (first | (with_reducible first | exact HB.out | apply below_alloc | apply pw_below_drewN | apply below_drew1) | exact HB.out)⟩⟩
      · replace c10 := Bool.eq_false_iff.mpr c10
        subst c10
        have H1 : (salchowlaw36_RotationTimes.j0 k l0 l1 l2 a3 true) = some r := by rw [if_neg (show ¬ (false = true) by decide)] at H; exact H
        clear H
        have H := H1
        clear H1
        have H' := Aside0.mk H
        clear H
        go_wp2_with (first | ((with_reducible refine gate_callee (f := 23) rfl ?_); refine goesL_ (some 14) rfl rfl Try.func23 (by kernel_rfl) rfl #[.slice A0 l0.length c0] rfl (by (try simp only [List.map_toArray, List.map_cons, List.map_nil]); first | done | rfl | (simp only [List.length_drop, List.length_take]; rfl)) ?_; (with_reducible refine (salchowref36_Small.calls k _ _ l0 false _ ?side1 ?side2 A9.out).mono ?_); (case side1 => repeat (first | exact (Kd.C_below HR0.out HB.out) | (with_reducible refine Kd.C_alloc ?_ _) | (with_reducible refine Kd.C_drewN ?_ _) | (with_reducible refine Kd.C_drew ?_))); (case side2 => exact HC0.out); rintro e w' ⟨rfl, ⟨nd, rfl⟩⟩; refine ⟨_, rfl, ?_⟩))
        go_meet
        case rel => exact ⟨_, (true), (by first | rfl | (simp; done) | (simp [*]; done)), H', ⟨by first | omega | exact Nat.le_refl _⟩, ⟨by repeat (first | (with_reducible first | exact HB.out | apply below_alloc | apply pw_below_drewN | apply below_drew1) | exact HB.out)⟩⟩
    case rest =>
      clear HC7
      try clear c1
      try clear c2
      try clear p2
      try clear c6
      try clear c7
      try clear c10
      try clear c11
      try clear c11b0
      try clear c11b1
      obtain ⟨kq, x25_6, rfl, HA, HJ6, HB⟩ := hcut
      cases kq with
      | zero => exact absurd HA.out (by simp [salchowlaw36_RotationTimes.j0])
      | succ kj6 =>
        have H := HA.out
        clear HA
        simp only [salchowlaw36_RotationTimes.j0] at H
        by_cases c12 : x25_6 = true
        · subst c12
          have H1 : (some true) = some r := by rw [if_pos rfl] at H; exact H
          clear H
          have H := H1
          clear H1
          obtain rfl := Option.some.inj H
          go_wp2
          go_ret
          exact ⟨by first | rfl | (simp [errW_none, errW_some] <;> rfl) | (simp [*, errW_none, errW_some] <;> rfl), by repeat (first | (with_reducible first | exact HB.out | apply below_alloc | apply pw_below_drewN | apply below_drew1) | exact HB.out)⟩
        · replace c12 := Bool.eq_false_iff.mpr c12
          subst c12
          have H1 : ((rotation_Timetable.f kj6 l0 l1 l2 a3).bind fun bt396 => ((salchowref36_Latin.f kj6 l0).bind fun t400 => (if t400 = true then (if (l1.length : Int) = (l0.length : Int) then (salchowlaw36_RotationTimes.j1 kj6 l0 l1 l2 a3 bt396.1 bt396.2 ((l2.length : Int) != (l0.length : Int))) else (salchowlaw36_RotationTimes.j1 kj6 l0 l1 l2 a3 bt396.1 bt396.2 true)) else (salchowlaw36_RotationTimes.j1 kj6 l0 l1 l2 a3 bt396.1 bt396.2 true)))) = some r := by rw [if_neg (show ¬ (false = true) by decide)] at H; exact H
          clear H
          have H := H1
          clear H1
          replace H := Option.bind_eq_some_iff.mp H
          obtain ⟨⟨t396, t397⟩, A130, H⟩ := H
          replace H : ((salchowref36_Latin.f kj6 l0).bind fun t400 => (if t400 = true then (if (l1.length : Int) = (l0.length : Int) then (salchowlaw36_RotationTimes.j1 kj6 l0 l1 l2 a3 t396 t397 ((l2.length : Int) != (l0.length : Int))) else (salchowlaw36_RotationTimes.j1 kj6 l0 l1 l2 a3 t396 t397 true)) else (salchowlaw36_RotationTimes.j1 kj6 l0 l1 l2 a3 t396 t397 true))) = some r := H
          have A13 := Aside0.mk A130
          clear A130
          have HC14 := Aside0.mk H
          clear H
          go_upto_region 6 with (first | ((with_reducible refine gate_callee (f := 27) rfl ?_); refine goesL_ (some 31) rfl rfl Try.func27 (by kernel_rfl) rfl #[.slice A0 l0.length c0, .slice A1 l1.length c1, .slice A2 l2.length c2, .int .i64 a3] rfl (by (try simp only [List.map_toArray, List.map_cons, List.map_nil]); first | done | rfl | (simp only [List.length_drop, List.length_take]; rfl)) ?_; (with_reducible refine (rotation_Timetable.calls kj6 _ _ l0 _ _ l1 _ _ l2 a3 t396 t397 _ ?side1 ?side2 ?side3 ?side4 ?side5 ?side6 A13.out).mono ?_); (case side1 => repeat (first | exact (Kd.C_below HR0.out HB.out) | (with_reducible refine Kd.C_alloc ?_ _) | (with_reducible refine Kd.C_drewN ?_ _) | (with_reducible refine Kd.C_drew ?_))); (case side2 => exact HC0.out); (case side3 => repeat (first | exact (Kd.C_below HR1.out HB.out) | (with_reducible refine Kd.C_alloc ?_ _) | (with_reducible refine Kd.C_drewN ?_ _) | (with_reducible refine Kd.C_drew ?_))); (case side4 => exact HC1.out); (case side5 => repeat (first | exact (Kd.C_below HR2.out HB.out) | (with_reducible refine Kd.C_alloc ?_ _) | (with_reducible refine Kd.C_drewN ?_ _) | (with_reducible refine Kd.C_drew ?_))); (case side6 => exact HC2.out); rintro e w15 ⟨v398, rfl, ho0, hb⟩; refine ⟨_, rfl, ?_⟩; have n0_ := Aside0.mk (Kd.R_lower ho0 (below_size (by repeat (first | (with_reducible first | exact HB.out | apply below_alloc | apply pw_below_drewN | apply below_drew1) | exact HB.out)))); have n1_ := Aside0.mk (below_step (by repeat (first | (with_reducible first | exact HB.out | apply below_alloc | apply pw_below_drewN | apply below_drew1) | exact HB.out)) hb); clear HB; have HO399 := n0_; have HB := n1_; clear n0_ n1_; (try clear hb); (try clear hb2); (try clear hk); (try clear hi); (try clear ho0)))
          (try simp only [Act.put, List.setIfInBounds_toArray, List.set_cons_zero, List.set_cons_succ])
          go_cut [50] (fun v50 wc => ∃ (kq : Nat) (x50_13 : Bool), v50 = .bool x50_13 ∧ Aside0 (salchowlaw36_RotationTimes.j1 kq l0 l1 l2 a3 t396 t397 x50_13 = some r) ∧ Aside0 (kq ≤ kj6) ∧ Aside0 (Kd.R (Kd.int .i64) 3 wc w.heap.size (fun _ => True) v398 t396) ∧ Aside0 (Below w.heap.size w wc))
          case first =>
            have H := HC14.out
            clear HC14
            replace H := Option.bind_eq_some_iff.mp H
            obtain ⟨t400, A160, H⟩ := H
            replace H : (if t400 = true then (if (l1.length : Int) = (l0.length : Int) then (salchowlaw36_RotationTimes.j1 kj6 l0 l1 l2 a3 t396 t397 ((l2.length : Int) != (l0.length : Int))) else (salchowlaw36_RotationTimes.j1 kj6 l0 l1 l2 a3 t396 t397 true)) else (salchowlaw36_RotationTimes.j1 kj6 l0 l1 l2 a3 t396 t397 true)) = some r := H
            have A16 := Aside0.mk A160
            clear A160
            by_cases c17 : t400 = true
            · subst c17
              have H1 : (if (l1.length : Int) = (l0.length : Int) then (salchowlaw36_RotationTimes.j1 kj6 l0 l1 l2 a3 t396 t397 ((l2.length : Int) != (l0.length : Int))) else (salchowlaw36_RotationTimes.j1 kj6 l0 l1 l2 a3 t396 t397 true)) = some r := by rw [if_pos rfl] at H; exact H
              clear H
              have H := H1
              clear H1
              by_cases c18 : (l1.length : Int) = (l0.length : Int)
              · rw [if_pos c18] at H
                have c18b0 : ((l1.length : Int) == (l0.length : Int)) = true := beq_iff_eq.mpr c18
                have c18b1 : ((l1.length : Int) != (l0.length : Int)) = false := bne_eq_false_iff_eq.mpr c18
                have c18b2 : (l1.length == l0.length) = true := by first | simpa using c18 | (simp at c18 ⊢; omega)
                clear c18
                (first | rw [c18b0] | (simp only [i64_w, i32_w]; rw [c18b0]) | skip)
                have H' := Aside0.mk H
                clear H
                go_wp2_with (first | ((with_reducible refine gate_callee (f := 28) rfl ?_); refine goesL_ (some 35) rfl rfl Try.func28 (by kernel_rfl) rfl #[.slice A0 l0.length c0] rfl (by (try simp only [List.map_toArray, List.map_cons, List.map_nil]); first | done | rfl | (simp only [List.length_drop, List.length_take]; rfl)) ?_; (with_reducible refine (salchowref36_Latin.calls kj6 _ _ l0 true _ ?side1 ?side2 A16.out).mono ?_); (case side1 => repeat (first | exact (Kd.C_below HR0.out HB.out) | (with_reducible refine Kd.C_alloc ?_ _) | (with_reducible refine Kd.C_drewN ?_ _) | (with_reducible refine Kd.C_drew ?_))); (case side2 => exact HC0.out); rintro e w19 ⟨rfl, hb⟩; refine ⟨_, rfl, ?_⟩; have n0_ := Aside0.mk (Kd.R_below (by (with_reducible repeat (first | apply Kd.R_alloc | apply Kd.R_drewN | apply Kd.R_drew)); exact HO399.out) hb); have n1_ := Aside0.mk (below_step (by repeat (first | (with_reducible first | exact HB.out | apply below_alloc | apply pw_below_drewN | apply below_drew1) | exact HB.out)) hb); clear HO399; clear HB; have HO399 := n0_; have HB := n1_; clear n0_ n1_; (try clear hb); (try clear hb2); (try clear hk); (try clear hi)))
                go_meet
                case rel => exact ⟨_, (((l2.length : Int) != (l0.length : Int))), (by first | rfl | (simp; done) | (simp [*]; done)), H', ⟨by have := HJ6.out; first | omega | exact Nat.le_refl _⟩, ⟨by (with_reducible repeat (first | apply Kd.R_alloc | apply Kd.R_drewN | apply Kd.R_drew)); exact HO399.out⟩, ⟨by repeat (first | (with_reducible first | exact HB.out | apply below_alloc | apply pw_below_drewN | apply below_drew1) | exact HB.out)⟩⟩
              · rw [if_neg c18] at H
                have c18b0 : ((l1.length : Int) == (l0.length : Int)) = false := beq_eq_false_iff_ne.mpr c18
                have c18b1 : ((l1.length : Int) != (l0.length : Int)) = true := bne_iff_ne.mpr c18
                have c18b2 : (l1.length == l0.length) = false := by first | simpa using c18 | (simp at c18 ⊢; omega)
                (first | rw [c18b0] | (simp only [i64_w, i32_w]; rw [c18b0]) | skip)
                have H' := Aside0.mk H
                clear H
                go_wp2_with (first | ((with_reducible refine gate_callee (f := 28) rfl ?_); refine goesL_ (some 35) rfl rfl Try.func28 (by kernel_rfl) rfl #[.slice A0 l0.length c0] rfl (by (try simp only [List.map_toArray, List.map_cons, List.map_nil]); first | done | rfl | (simp only [List.length_drop, List.length_take]; rfl)) ?_; (with_reducible refine (salchowref36_Latin.calls kj6 _ _ l0 true _ ?side1 ?side2 A16.out).mono ?_); (case side1 => repeat (first | exact (Kd.C_below HR0.out HB.out) | (with_reducible refine Kd.C_alloc ?_ _) | (with_reducible refine Kd.C_drewN ?_ _) | (with_reducible refine Kd.C_drew ?_))); (case side2 => exact HC0.out); rintro e w20 ⟨rfl, hb⟩; refine ⟨_, rfl, ?_⟩; have n0_ := Aside0.mk (Kd.R_below (by (with_reducible repeat (first | apply Kd.R_alloc | apply Kd.R_drewN | apply Kd.R_drew)); exact HO399.out) hb); have n1_ := Aside0.mk (below_step (by repeat (first | (with_reducible first | exact HB.out | apply below_alloc | apply pw_below_drewN | apply below_drew1) | exact HB.out)) hb); clear HO399; clear HB; have HO399 := n0_; have HB := n1_; clear n0_ n1_; (try clear hb); (try clear hb2); (try clear hk); (try clear hi)))
                go_meet
                case rel => exact ⟨_, (true), (by first | rfl | (simp; done) | (simp [*]; done)), H', ⟨by have := HJ6.out; first | omega | exact Nat.le_refl _⟩, ⟨by (with_reducible repeat (first | apply Kd.R_alloc | apply Kd.R_drewN | apply Kd.R_drew)); exact HO399.out⟩, ⟨by repeat (first | (with_reducible first | exact HB.out | apply below_alloc | apply pw_below_drewN | apply below_drew1) | exact HB.out)⟩⟩
            · replace c17 := Bool.eq_false_iff.mpr c17
              subst c17
              have H1 : (salchowlaw36_RotationTimes.j1 kj6 l0 l1 l2 a3 t396 t397 true) = some r := by rw [if_neg (show ¬ (false = true) by decide)] at H; exact H
              clear H
              have H := H1
              clear H1
              have H' := Aside0.mk H
              clear H
              go_wp2_with (first | ((with_reducible refine gate_callee (f := 28) rfl ?_); refine goesL_ (some 35) rfl rfl Try.func28 (by kernel_rfl) rfl #[.slice A0 l0.length c0] rfl (by (try simp only [List.map_toArray, List.map_cons, List.map_nil]); first | done | rfl | (simp only [List.length_drop, List.length_take]; rfl)) ?_; (with_reducible refine (salchowref36_Latin.calls kj6 _ _ l0 false _ ?side1 ?side2 A16.out).mono ?_); (case side1 => repeat (first | exact (Kd.C_below HR0.out HB.out) | (with_reducible refine Kd.C_alloc ?_ _) | (with_reducible refine Kd.C_drewN ?_ _) | (with_reducible refine Kd.C_drew ?_))); (case side2 => exact HC0.out); rintro e w21 ⟨rfl, hb⟩; refine ⟨_, rfl, ?_⟩; have n0_ := Aside0.mk (Kd.R_below (by (with_reducible repeat (first | apply Kd.R_alloc | apply Kd.R_drewN | apply Kd.R_drew)); exact HO399.out) hb); have n1_ := Aside0.mk (below_step (by repeat (first | (with_reducible first | exact HB.out | apply below_alloc | apply pw_below_drewN | apply below_drew1) | exact HB.out)) hb); clear HO399; clear HB; have HO399 := n0_; have HB := n1_; clear n0_ n1_; (try clear hb); (try clear hb2); (try clear hk); (try clear hi)))
              go_meet
              case rel => exact ⟨_, (true), (by first | rfl | (simp; done) | (simp [*]; done)), H', ⟨by have := HJ6.out; first | omega | exact Nat.le_refl _⟩, ⟨by (with_reducible repeat (first | apply Kd.R_alloc | apply Kd.R_drewN | apply Kd.R_drew)); exact HO399.out⟩, ⟨by repeat (first | (with_reducible first | exact HB.out | apply below_alloc | apply pw_below_drewN | apply below_drew1) | exact HB.out)⟩⟩
          case rest =>
            clear HC14
            try clear c1
            try clear c2
            try clear p2
            try clear c6
            try clear c7
            try clear c10
            try clear c11
            try clear c11b0
            try clear c11b1
            try clear c12
            try clear c13
            try clear c17
            try clear c18
            try clear c18b0
            try clear c18b1
            try clear c18b2
            try clear p2
            obtain ⟨kq, x50_13, rfl, HA, HJ13, HO_9, HB⟩ := hcut
            cases kq with
            | zero => exact absurd HA.out (by simp [salchowlaw36_RotationTimes.j1])
            | succ kj13 =>
              have H := HA.out
              clear HA
              simp only [salchowlaw36_RotationTimes.j1] at H
              by_cases c22 : x50_13 = true
              · subst c22
                have H1 : (some (t397 == 1)) = some r := by rw [if_pos rfl] at H; exact H
                clear H
                have H := H1
                clear H1
                obtain rfl := Option.some.inj H
                go_wp2
                go_ret
                exact ⟨by first | rfl | (simp [errW_none, errW_some] <;> rfl) | (simp [*, errW_none, errW_some] <;> rfl), by repeat (first | (with_reducible first | exact HB.out | apply below_alloc | apply pw_below_drewN | apply below_drew1) | exact HB.out)⟩
              · replace c22 := Bool.eq_false_iff.mpr c22
                subst c22
                have H1 : ((salchowref36_Range.f kj13 l1 l2 a3).bind fun t401 => (if t401 = true then (if t397 = 0 then ((salchowref36_Timetable.f kj13 l0 l1 l2 a3).bind fun t402 => ((salchowref36_Same.f kj13 t396 t402).bind fun t405 => (some t405))) else (some false)) else (some (t397 == 5)))) = some r := by rw [if_neg (show ¬ (false = true) by decide)] at H; exact H
                clear H
                have H := H1
                clear H1
                replace H := Option.bind_eq_some_iff.mp H
                obtain ⟨t401, A230, H⟩ := H
                replace H : (if t401 = true then (if t397 = 0 then ((salchowref36_Timetable.f kj13 l0 l1 l2 a3).bind fun t402 => ((salchowref36_Same.f kj13 t396 t402).bind fun t405 => (some t405))) else (some false)) else (some (t397 == 5))) = some r := H
                have A23 := Aside0.mk A230
                clear A230
                by_cases c24 : t401 = true
                · subst c24
                  have H1 : (if t397 = 0 then ((salchowref36_Timetable.f kj13 l0 l1 l2 a3).bind fun t402 => ((salchowref36_Same.f kj13 t396 t402).bind fun t405 => (some t405))) else (some false)) = some r := by rw [if_pos rfl] at H; exact H
                  clear H
                  have H := H1
                  clear H1
                  by_cases c25 : t397 = 0
                  · rw [if_pos c25] at H
                    have c25b0 : (t397 == 0) = true := beq_iff_eq.mpr c25
                    have c25b1 : (t397 != 0) = false := bne_eq_false_iff_eq.mpr c25
                    clear c25
                    replace H := Option.bind_eq_some_iff.mp H
                    obtain ⟨t402, A260, H⟩ := H
                    replace H : ((salchowref36_Same.f kj13 t396 t402).bind fun t405 => (some t405)) = some r := H
                    have A26 := Aside0.mk A260
                    clear A260
                    replace H := Option.bind_eq_some_iff.mp H
                    obtain ⟨t405, A270, H⟩ := H
                    replace H : (some t405) = some r := H
                    have A27 := Aside0.mk A270
                    clear A270
                    obtain rfl := Option.some.inj H
                    go_wp2_with (first | ((with_reducible refine gate_callee (f := 29) rfl ?_); refine goesL_ (some 56) rfl rfl Try.func29 (by kernel_rfl) rfl #[.slice A1 l1.length c1, .slice A2 l2.length c2, .int .i64 a3] rfl (by (try simp only [List.map_toArray, List.map_cons, List.map_nil]); first | done | rfl | (simp only [List.length_drop, List.length_take]; rfl)) ?_; (with_reducible refine (salchowref36_Range.calls kj13 _ _ l1 _ _ l2 a3 true _ ?side1 ?side2 ?side3 ?side4 A23.out).mono ?_); (case side1 => repeat (first | exact (Kd.C_below HR1.out HB.out) | (with_reducible refine Kd.C_alloc ?_ _) | (with_reducible refine Kd.C_drewN ?_ _) | (with_reducible refine Kd.C_drew ?_))); (case side2 => exact HC1.out); (case side3 => repeat (first | exact (Kd.C_below HR2.out HB.out) | (with_reducible refine Kd.C_alloc ?_ _) | (with_reducible refine Kd.C_drewN ?_ _) | (with_reducible refine Kd.C_drew ?_))); (case side4 => exact HC2.out); rintro e w' ⟨rfl, ⟨nd, rfl⟩⟩; refine ⟨_, rfl, ?_⟩) | (go_at_call 30; (with_reducible refine (salchowref36_Timetable.calls kj13 _ _ l0 _ _ l1 _ _ l2 a3 t402 _ ?side1 ?side2 ?side3 ?side4 ?side5 ?side6 A26.out).mono ?_); (case side1 => repeat (first | exact (Kd.C_below HR0.out (by repeat (first | (with_reducible first | exact HB.out | apply below_alloc | apply pw_below_drewN | apply below_drew1) | exact HB.out))) | (with_reducible refine Kd.C_alloc ?_ _) | (with_reducible refine Kd.C_drewN ?_ _) | (with_reducible refine Kd.C_drew ?_))); (case side2 => exact HC0.out); (case side3 => repeat (first | exact (Kd.C_below HR1.out (by repeat (first | (with_reducible first | exact HB.out | apply below_alloc | apply pw_below_drewN | apply below_drew1) | exact HB.out))) | (with_reducible refine Kd.C_alloc ?_ _) | (with_reducible refine Kd.C_drewN ?_ _) | (with_reducible refine Kd.C_drew ?_))); (case side4 => exact HC1.out); (case side5 => repeat (first | exact (Kd.C_below HR2.out (by repeat (first | (with_reducible first | exact HB.out | apply below_alloc | apply pw_below_drewN | apply below_drew1) | exact HB.out))) | (with_reducible refine Kd.C_alloc ?_ _) | (with_reducible refine Kd.C_drewN ?_ _) | (with_reducible refine Kd.C_drew ?_))); (case side6 => exact HC2.out); rintro e w28 ⟨v403, rfl, ho0, hb⟩; have n0_ := Aside0.mk (Kd.R_elder' (by (with_reducible repeat (first | apply Kd.R_alloc | apply Kd.R_drewN | apply Kd.R_drew)); exact HO_9.out) (Kd.R_base ho0) hb); have n1_ := Aside0.mk (Kd.R_lower (Kd.R_new' ho0 (Kd.R_lt (by (with_reducible repeat (first | apply Kd.R_alloc | apply Kd.R_drewN | apply Kd.R_drew)); exact HO_9.out))) (below_size (by repeat (first | (with_reducible first | exact HB.out | apply below_alloc | apply pw_below_drewN | apply below_drew1) | exact HB.out)))); have n2_ := Aside0.mk (below_step (by repeat (first | (with_reducible first | exact HB.out | apply below_alloc | apply pw_below_drewN | apply below_drew1) | exact HB.out)) hb); clear HO_9; clear HB; have HO_9 := n0_; have HO404 := n1_; have HB := n2_; clear n0_ n1_ n2_; (try clear hb); (try clear hb2); (try clear hk); (try clear hi); (try clear ho0); obtain ⟨Ao29, co29, eo29⟩ := Kd.R_slice HO_9.out; subst eo29; obtain ⟨Ao30, co30, eo30⟩ := Kd.R_slice HO404.out; subst eo30) | (go_at_call 25; (with_reducible refine (salchowref36_Same.calls kj13 _ _ t396 _ _ t402 t405 _ ?side1 ?side2 ?side3 ?side4 A27.out).mono ?_); (case side1 => repeat (first | exact (Kd.R_reads' HO_9.out).2.2 | (with_reducible refine Kd.C_alloc ?_ _) | (with_reducible refine Kd.C_drewN ?_ _) | (with_reducible refine Kd.C_drew ?_))); (case side2 => exact (Kd.R_reads' HO_9.out).2.1); (case side3 => repeat (first | exact (Kd.R_reads' HO404.out).2.2 | (with_reducible refine Kd.C_alloc ?_ _) | (with_reducible refine Kd.C_drewN ?_ _) | (with_reducible refine Kd.C_drew ?_))); (case side4 => exact (Kd.R_reads' HO404.out).2.1); rintro e w' ⟨rfl, ⟨nd, rfl⟩⟩))
                    go_ret
                    exact ⟨by first | rfl | (simp [errW_none, errW_some] <;> rfl) | (simp [*, errW_none, errW_some] <;> rfl), by repeat (first | (with_reducible first | exact HB.out | apply below_alloc | apply pw_below_drewN | apply below_drew1) | exact HB.out)⟩
                  · rw [if_neg c25] at H
                    have c25b0 : (t397 == 0) = false := beq_eq_false_iff_ne.mpr c25
                    have c25b1 : (t397 != 0) = true := bne_iff_ne.mpr c25
                    obtain rfl := Option.some.inj H
                    go_wp2_with (first | ((with_reducible refine gate_callee (f := 29) rfl ?_); refine goesL_ (some 56) rfl rfl Try.func29 (by kernel_rfl) rfl #[.slice A1 l1.length c1, .slice A2 l2.length c2, .int .i64 a3] rfl (by (try simp only [List.map_toArray, List.map_cons, List.map_nil]); first | done | rfl | (simp only [List.length_drop, List.length_take]; rfl)) ?_; (with_reducible refine (salchowref36_Range.calls kj13 _ _ l1 _ _ l2 a3 true _ ?side1 ?side2 ?side3 ?side4 A23.out).mono ?_); (case side1 => repeat (first | exact (Kd.C_below HR1.out HB.out) | (with_reducible refine Kd.C_alloc ?_ _) | (with_reducible refine Kd.C_drewN ?_ _) | (with_reducible refine Kd.C_drew ?_))); (case side2 => exact HC1.out); (case side3 => repeat (first | exact (Kd.C_below HR2.out HB.out) | (with_reducible refine Kd.C_alloc ?_ _) | (with_reducible refine Kd.C_drewN ?_ _) | (with_reducible refine Kd.C_drew ?_))); (case side4 => exact HC2.out); rintro e w' ⟨rfl, ⟨nd, rfl⟩⟩; refine ⟨_, rfl, ?_⟩))
                    go_ret
                    exact ⟨by first | rfl | (simp [errW_none, errW_some] <;> rfl) | (simp [*, errW_none, errW_some] <;> rfl), by repeat (first | (with_reducible first | exact HB.out | apply below_alloc | apply pw_below_drewN | apply below_drew1) | exact HB.out)⟩
                · replace c24 := Bool.eq_false_iff.mpr c24
                  subst c24
                  have H1 : (some (t397 == 5)) = some r := by rw [if_neg (show ¬ (false = true) by decide)] at H; exact H
                  clear H
                  have H := H1
                  clear H1
                  obtain rfl := Option.some.inj H
                  go_wp2_with (first | ((with_reducible refine gate_callee (f := 29) rfl ?_); refine goesL_ (some 56) rfl rfl Try.func29 (by kernel_rfl) rfl #[.slice A1 l1.length c1, .slice A2 l2.length c2, .int .i64 a3] rfl (by (try simp only [List.map_toArray, List.map_cons, List.map_nil]); first | done | rfl | (simp only [List.length_drop, List.length_take]; rfl)) ?_; (with_reducible refine (salchowref36_Range.calls kj13 _ _ l1 _ _ l2 a3 false _ ?side1 ?side2 ?side3 ?side4 A23.out).mono ?_); (case side1 => repeat (first | exact (Kd.C_below HR1.out HB.out) | (with_reducible refine Kd.C_alloc ?_ _) | (with_reducible refine Kd.C_drewN ?_ _) | (with_reducible refine Kd.C_drew ?_))); (case side2 => exact HC1.out); (case side3 => repeat (first | exact (Kd.C_below HR2.out HB.out) | (with_reducible refine Kd.C_alloc ?_ _) | (with_reducible refine Kd.C_drewN ?_ _) | (with_reducible refine Kd.C_drew ?_))); (case side4 => exact HC2.out); rintro e w' ⟨rfl, ⟨nd, rfl⟩⟩; refine ⟨_, rfl, ?_⟩))
                  go_ret
                  exact ⟨by first | rfl | (simp [errW_none, errW_some] <;> rfl) | (simp [*, errW_none, errW_some] <;> rfl), by repeat (first | (with_reducible first | exact HB.out | apply below_alloc | apply pw_below_drewN | apply below_drew1) | exact HB.out)⟩
  · replace c6 := Bool.eq_false_iff.mpr c6
    subst c6
    have H1 : (some false) = some r := by rw [if_neg (show ¬ (false = true) by decide)] at H; exact H
    clear H
    have H := H1
    clear H1
    obtain rfl := Option.some.inj H
    go_enter Try.func7, Try.ntmps7
    go_wp2_with (first | ((with_reducible refine gate_callee (f := 13) rfl ?_); refine goesL_ (some 11) rfl rfl Try.func13 (by kernel_rfl) rfl #[] rfl (by (try simp only [List.map_toArray, List.map_cons, List.map_nil]); first | done | rfl | (simp only [List.length_drop, List.length_take]; rfl)) ?_; (with_reducible refine (salchowlaw36_awake.calls k  false _ A5.out).mono ?_); rintro e w31 ⟨rfl, hb⟩; refine ⟨_, rfl, ?_⟩; have n0_ := Aside0.mk (below_step (by repeat (first | (with_reducible first | exact HB.out | apply below_alloc | apply pw_below_drewN | apply below_drew1) | exact HB.out)) hb); clear HB; have HB := n0_; clear n0_; (try clear hb); (try clear hb2); (try clear hk); (try clear hi)))
    go_ret
    exact ⟨by first | rfl | (simp [errW_none, errW_some] <;> rfl) | (simp [*, errW_none, errW_some] <;> rfl), by repeat (first | (with_reducible first | exact HB.out | apply below_alloc | apply pw_below_drewN | apply below_drew1) | exact HB.out)⟩

end Go.Proofs.Ytaodpgblleiiaaa.P
