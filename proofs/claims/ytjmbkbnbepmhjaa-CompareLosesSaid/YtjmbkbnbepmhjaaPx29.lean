-- out of a program (drive.sh), by way of the translation's print
import Derived.Test.YtjmbkbnbepmhjaaPx0
import Derived.Test.YtjmbkbnbepmhjaaPx3
import Derived.Test.YtjmbkbnbepmhjaaPx8
import Derived.Test.YtjmbkbnbepmhjaaPx16
import Derived.Test.YtjmbkbnbepmhjaaPx19
namespace Go.Proofs.Ytjmbkbnbepmhjaa.P
open Go.RowKit Go.Proofs.YtjmbkbnbepmhjaaW.PrintWords Go.Proofs.YtjmbkbnbepmhjaaW.PrintLast Go.Proofs.YtjmbkbnbepmhjaaW.PrintMore
attribute [local go_sem] max2_int min2_int max_two min_two max_three min_three max_four min_four   -- for this text's walks alone
set_option linter.unusedVariables false
set_option linter.unusedSimpArgs false

/-! ### salchowlaw25_CompareLoses: function 6 -/
mutual
def salchowlaw25_CompareLoses.j0 : Nat → List (S50) → List (S50) → Bool → Option (Bool)
 | 0, _, _, _ => none
 | k + 1, x0, x1, x27 => if x27 = true then ((salchowlaw25_awake.f k).bind fun t389 => (some t389)) else ((compare_Script.f k x0 x1).bind fun bt390 => ((compare_Missing.f k bt390.1).bind fun bt394 => (if bt390.2 = 0 then (salchowlaw25_CompareLoses.j1 k x0 x1 bt394.1 (bt394.2 != 0)) else (salchowlaw25_CompareLoses.j1 k x0 x1 bt394.1 true))))
def salchowlaw25_CompareLoses.j1 : Nat → List (S50) → List (S50) → List Int → Bool → Option (Bool)
 | 0, _, _, _, _ => none
 | k + 1, x0, x1, x7, x45 => if x45 = true then (some false) else (salchowlaw25_CompareLoses.l0 k x0 x1 x7 (([] : List ByteArray)) 0 0)
def salchowlaw25_CompareLoses.l0 : Nat → List (S50) → List (S50) → List Int → List ByteArray → Int → Int → Option (Bool)
 | 0, _, _, _, _, _, _ => none
 | k + 1, x0, x1, x7, x9, x10, x11 => if x11 < (x0.length : Int) then (if x10 < (x7.length : Int) then (if 0 ≤ x10 then (if (rd x7 x10) = x11 then (salchowlaw25_CompareLoses.l0 k x0 x1 x7 x9 (wrap64 (x10 + 1)) (wrap64 (x11 + 1))) else (if 0 ≤ x11 then (if x9.length < 8796093022208 then (salchowlaw25_CompareLoses.l0 k x0 x1 x7 (x9 ++ [(rd_T50 x0 x11).f0]) x10 (wrap64 (x11 + 1))) else (none)) else (none))) else (none)) else (if 0 ≤ x11 then (if x9.length < 8796093022208 then (salchowlaw25_CompareLoses.l0 k x0 x1 x7 (x9 ++ [(rd_T50 x0 x11).f0]) x10 (wrap64 (x11 + 1))) else (none)) else (none))) else (salchowlaw25_CompareLoses.l1 k x1 x7 x9 x10 0 0)
def salchowlaw25_CompareLoses.l1 : Nat → List (S50) → List Int → List ByteArray → Int → Int → Int → Option (Bool)
 | 0, _, _, _, _, _, _ => none
 | k + 1, x1, x7, x9, x10, x12, x13 => if x13 < (x1.length : Int) then (salchowlaw25_CompareLoses.j4 k x1 x7 x9 x10 x12 x13 (decide (x12 < (x9.length : Int)))) else (salchowlaw25_CompareLoses.j4 k x1 x7 x9 x10 x12 x13 false)
def salchowlaw25_CompareLoses.j4 : Nat → List (S50) → List Int → List ByteArray → Int → Int → Int → Bool → Option (Bool)
 | 0, _, _, _, _, _, _, _ => none
 | k + 1, x1, x7, x9, x10, x12, x13, x84 => if x84 = true then (if 0 ≤ x13 then (if x13 < (x1.length : Int) then (if 0 ≤ x12 then (if x12 < (x9.length : Int) then (if ((rd_T50 x1 x13).f0).toList = (rdOf ByteArray.empty x9 x12).toList then (salchowlaw25_CompareLoses.l1 k x1 x7 x9 x10 (wrap64 (x12 + 1)) (wrap64 (x13 + 1))) else (salchowlaw25_CompareLoses.l1 k x1 x7 x9 x10 x12 (wrap64 (x13 + 1)))) else (none)) else (none)) else (none)) else (none)) else ((salchowlaw25_awake.f k).bind fun t412 => (if t412 = true then (if x10 = (x7.length : Int) then (some (x12 == (x9.length : Int))) else (some false)) else (some false)))
end
def salchowlaw25_CompareLoses.f (k : Nat) (l0 : List (S50)) (l1 : List (S50)) : Option (Bool) := (salchowref25_Small.f k l0 l1 ([] : List (S58))).bind fun t388 => (if t388 = true then (if (l0.length : Int) > 30 then (salchowlaw25_CompareLoses.j0 k l0 l1 true) else (salchowlaw25_CompareLoses.j0 k l0 l1 (decide ((l1.length : Int) > 30)))) else (salchowlaw25_CompareLoses.j0 k l0 l1 true))
theorem salchowlaw25_CompareLoses.mono_l : ∀ k, (∀ y0 y1 y2, LeO (salchowlaw25_CompareLoses.j0 k y0 y1 y2) (salchowlaw25_CompareLoses.j0 (k + 1) y0 y1 y2)) ∧ (∀ y0 y1 y2 y3, LeO (salchowlaw25_CompareLoses.j1 k y0 y1 y2 y3) (salchowlaw25_CompareLoses.j1 (k + 1) y0 y1 y2 y3)) ∧ (∀ y0 y1 y2 y3 y4 y5, LeO (salchowlaw25_CompareLoses.l0 k y0 y1 y2 y3 y4 y5) (salchowlaw25_CompareLoses.l0 (k + 1) y0 y1 y2 y3 y4 y5)) ∧ (∀ y0 y1 y2 y3 y4 y5, LeO (salchowlaw25_CompareLoses.l1 k y0 y1 y2 y3 y4 y5) (salchowlaw25_CompareLoses.l1 (k + 1) y0 y1 y2 y3 y4 y5)) ∧ (∀ y0 y1 y2 y3 y4 y5 y6, LeO (salchowlaw25_CompareLoses.j4 k y0 y1 y2 y3 y4 y5 y6) (salchowlaw25_CompareLoses.j4 (k + 1) y0 y1 y2 y3 y4 y5 y6))
 | 0 => ⟨fun _ _ _ r h => by simp [salchowlaw25_CompareLoses.j0] at h, fun _ _ _ _ r h => by simp [salchowlaw25_CompareLoses.j1] at h, fun _ _ _ _ _ _ r h => by simp [salchowlaw25_CompareLoses.l0] at h, fun _ _ _ _ _ _ r h => by simp [salchowlaw25_CompareLoses.l1] at h, fun _ _ _ _ _ _ _ r h => by simp [salchowlaw25_CompareLoses.j4] at h⟩
 | k + 1 => by
  obtain ⟨ih0, ih1, ih2, ih3, ih4⟩ := salchowlaw25_CompareLoses.mono_l k
  refine ⟨?_, ?_, ?_, ?_, ?_⟩
  ·intro y0 y1 y2
   unfold salchowlaw25_CompareLoses.j0
   repeat' first
   | (with_reducible exact ih0 _ _ _)
   | (with_reducible exact ih1 _ _ _ _)
   | (with_reducible exact ih2 _ _ _ _ _ _)
   | (with_reducible exact ih3 _ _ _ _ _ _)
   | (with_reducible exact ih4 _ _ _ _ _ _ _)
   | (with_reducible exact compare_Missing.mono _ _)
   | (with_reducible exact compare_Script.mono _ _ _)
   | (with_reducible exact salchowlaw25_awake.mono _)
   | (with_reducible exact salchowref25_Small.mono _ _ _ _)
   | (with_reducible exact LeO.refl _)
   | (with_reducible exact LeO.none _)
   | (with_reducible refine LeO.ite ?_ ?_)
   | (with_reducible refine LeO.bind ?_ (fun _ => ?_))
   | exact ih0 _ _ _
   | exact ih1 _ _ _ _
   | exact ih2 _ _ _ _ _ _
   | exact ih3 _ _ _ _ _ _
   | exact ih4 _ _ _ _ _ _ _
   | exact compare_Missing.mono _ _
   | exact compare_Script.mono _ _ _
   | exact salchowlaw25_awake.mono _
   | exact salchowref25_Small.mono _ _ _ _
   | exact LeO.none _
   | refine LeO.ite ?_ ?_
   | refine LeO.bind ?_ (fun _ => ?_)
  ·intro y0 y1 y2 y3
   unfold salchowlaw25_CompareLoses.j1
   repeat' first
   | (with_reducible exact ih0 _ _ _)
   | (with_reducible exact ih1 _ _ _ _)
   | (with_reducible exact ih2 _ _ _ _ _ _)
   | (with_reducible exact ih3 _ _ _ _ _ _)
   | (with_reducible exact ih4 _ _ _ _ _ _ _)
   | (with_reducible exact compare_Missing.mono _ _)
   | (with_reducible exact compare_Script.mono _ _ _)
   | (with_reducible exact salchowlaw25_awake.mono _)
   | (with_reducible exact salchowref25_Small.mono _ _ _ _)
   | (with_reducible exact LeO.refl _)
   | (with_reducible exact LeO.none _)
   | (with_reducible refine LeO.ite ?_ ?_)
   | (with_reducible refine LeO.bind ?_ (fun _ => ?_))
   | exact ih0 _ _ _
   | exact ih1 _ _ _ _
   | exact ih2 _ _ _ _ _ _
   | exact ih3 _ _ _ _ _ _
   | exact ih4 _ _ _ _ _ _ _
   | exact compare_Missing.mono _ _
   | exact compare_Script.mono _ _ _
   | exact salchowlaw25_awake.mono _
   | exact salchowref25_Small.mono _ _ _ _
   | exact LeO.none _
   | refine LeO.ite ?_ ?_
   | refine LeO.bind ?_ (fun _ => ?_)
  ·intro y0 y1 y2 y3 y4 y5
   unfold salchowlaw25_CompareLoses.l0
   repeat' first
   | (with_reducible exact ih0 _ _ _)
   | (with_reducible exact ih1 _ _ _ _)
   | (with_reducible exact ih2 _ _ _ _ _ _)
   | (with_reducible exact ih3 _ _ _ _ _ _)
   | (with_reducible exact ih4 _ _ _ _ _ _ _)
   | (with_reducible exact compare_Missing.mono _ _)
   | (with_reducible exact compare_Script.mono _ _ _)
   | (with_reducible exact salchowlaw25_awake.mono _)
   | (with_reducible exact salchowref25_Small.mono _ _ _ _)
   | (with_reducible exact LeO.refl _)
   | (with_reducible exact LeO.none _)
   | (with_reducible refine LeO.ite ?_ ?_)
   | (with_reducible refine LeO.bind ?_ (fun _ => ?_))
   | exact ih0 _ _ _
   | exact ih1 _ _ _ _
   | exact ih2 _ _ _ _ _ _
   | exact ih3 _ _ _ _ _ _
   | exact ih4 _ _ _ _ _ _ _
   | exact compare_Missing.mono _ _
   | exact compare_Script.mono _ _ _
   | exact salchowlaw25_awake.mono _
   | exact salchowref25_Small.mono _ _ _ _
   | exact LeO.none _
   | refine LeO.ite ?_ ?_
   | refine LeO.bind ?_ (fun _ => ?_)
  ·intro y0 y1 y2 y3 y4 y5
   unfold salchowlaw25_CompareLoses.l1
   repeat' first
   | (with_reducible exact ih0 _ _ _)
   | (with_reducible exact ih1 _ _ _ _)
   | (with_reducible exact ih2 _ _ _ _ _ _)
   | (with_reducible exact ih3 _ _ _ _ _ _)
   | (with_reducible exact ih4 _ _ _ _ _ _ _)
   | (with_reducible exact compare_Missing.mono _ _)
   | (with_reducible exact compare_Script.mono _ _ _)
   | (with_reducible exact salchowlaw25_awake.mono _)
   | (with_reducible exact salchowref25_Small.mono _ _ _ _)
   | (with_reducible exact LeO.refl _)
   | (with_reducible exact LeO.none _)
   | (with_reducible refine LeO.ite ?_ ?_)
   | (with_reducible refine LeO.bind ?_ (fun _ => ?_))
   | exact ih0 _ _ _
   | exact ih1 _ _ _ _
   | exact ih2 _ _ _ _ _ _
   | exact ih3 _ _ _ _ _ _
   | exact ih4 _ _ _ _ _ _ _
   | exact compare_Missing.mono _ _
   | exact compare_Script.mono _ _ _
   | exact salchowlaw25_awake.mono _
   | exact salchowref25_Small.mono _ _ _ _
   | exact LeO.none _
   | refine LeO.ite ?_ ?_
   | refine LeO.bind ?_ (fun _ => ?_)
  ·intro y0 y1 y2 y3 y4 y5 y6
   unfold salchowlaw25_CompareLoses.j4
   repeat' first
   | (with_reducible exact ih0 _ _ _)
   | (with_reducible exact ih1 _ _ _ _)
   | (with_reducible exact ih2 _ _ _ _ _ _)
   | (with_reducible exact ih3 _ _ _ _ _ _)
   | (with_reducible exact ih4 _ _ _ _ _ _ _)
   | (with_reducible exact compare_Missing.mono _ _)
   | (with_reducible exact compare_Script.mono _ _ _)
   | (with_reducible exact salchowlaw25_awake.mono _)
   | (with_reducible exact salchowref25_Small.mono _ _ _ _)
   | (with_reducible exact LeO.refl _)
   | (with_reducible exact LeO.none _)
   | (with_reducible refine LeO.ite ?_ ?_)
   | (with_reducible refine LeO.bind ?_ (fun _ => ?_))
   | exact ih0 _ _ _
   | exact ih1 _ _ _ _
   | exact ih2 _ _ _ _ _ _
   | exact ih3 _ _ _ _ _ _
   | exact ih4 _ _ _ _ _ _ _
   | exact compare_Missing.mono _ _
   | exact compare_Script.mono _ _ _
   | exact salchowlaw25_awake.mono _
   | exact salchowref25_Small.mono _ _ _ _
   | exact LeO.none _
   | refine LeO.ite ?_ ?_
   | refine LeO.bind ?_ (fun _ => ?_)
theorem salchowlaw25_CompareLoses.mono : ∀ a0 a1 k, LeO (salchowlaw25_CompareLoses.f k a0 a1) (salchowlaw25_CompareLoses.f (k + 1) a0 a1) := by
 intro a0 a1 k
 obtain ⟨ih0, ih1, ih2, ih3, ih4⟩ := salchowlaw25_CompareLoses.mono_l k
 unfold salchowlaw25_CompareLoses.f
 repeat' first
   | (with_reducible exact ih0 _ _ _)
   | (with_reducible exact ih1 _ _ _ _)
   | (with_reducible exact ih2 _ _ _ _ _ _)
   | (with_reducible exact ih3 _ _ _ _ _ _)
   | (with_reducible exact ih4 _ _ _ _ _ _ _)
   | (with_reducible exact compare_Missing.mono _ _)
   | (with_reducible exact compare_Script.mono _ _ _)
   | (with_reducible exact salchowlaw25_awake.mono _)
   | (with_reducible exact salchowref25_Small.mono _ _ _ _)
   | (with_reducible exact LeO.refl _)
   | (with_reducible exact LeO.none _)
   | (with_reducible refine LeO.ite ?_ ?_)
   | (with_reducible refine LeO.bind ?_ (fun _ => ?_))
   | exact ih0 _ _ _
   | exact ih1 _ _ _ _
   | exact ih2 _ _ _ _ _ _
   | exact ih3 _ _ _ _ _ _
   | exact ih4 _ _ _ _ _ _ _
   | exact compare_Missing.mono _ _
   | exact compare_Script.mono _ _ _
   | exact salchowlaw25_awake.mono _
   | exact salchowref25_Small.mono _ _ _ _
   | exact LeO.none _
   | refine LeO.ite ?_ ?_
   | refine LeO.bind ?_ (fun _ => ?_)
set_option maxHeartbeats 8000000 in
set_option maxRecDepth 100000 in
theorem salchowlaw25_CompareLoses.calls (k : Nat) (A0 : Option Addr) (c0 : Nat) (l0 : List (S50)) (A1 : Option Addr) (c1 : Nat) (l1 : List (S50)) (r : Bool) (w : World) (hr0 : Kd.C k50 w A0 l0.length l0) (hc0 : l0.length ≤ c0) (hr1 : Kd.C k50 w A1 l1.length l1) (hc1 : l1.length ≤ c1) (h : salchowlaw25_CompareLoses.f k l0 l1 = some r) :
  Calls Try.prog 6 #[.slice A0 l0.length c0, .slice A1 l1.length c1] w fun e w' => e = .returned (.bool r) ∧ Below w.heap.size w w' := by
 have HR0 := Aside0.mk hr0
 have HC0 := Aside0.mk hc0
 clear hr0 hc0
 have HR1 := Aside0.mk hr1
 have HC1 := Aside0.mk hc1
 clear hr1 hc1
 have HB := Aside0.mk (Below.refl w.heap.size w)
 have H : ((salchowref25_Small.f k l0 l1 ([] : List (S58))).bind fun t388 => (if t388 = true then (if (l0.length : Int) > 30 then (salchowlaw25_CompareLoses.j0 k l0 l1 true) else (salchowlaw25_CompareLoses.j0 k l0 l1 (decide ((l1.length : Int) > 30)))) else (salchowlaw25_CompareLoses.j0 k l0 l1 true))) = some r := h
 clear h
 have HC3 := Aside0.mk H
 clear H
 go_enter Try.func6, Try.ntmps6
 go_upto_region 1 with (fail)
 repeat (go_quiet (fail); go_upto_region 1 with (fail))
 go_cut [27] (fun v27 wc => ∃ (kq : Nat) (x27_2 : Bool), v27 = .bool x27_2 ∧ Aside0 (salchowlaw25_CompareLoses.j0 kq l0 l1 x27_2 = some r) ∧ Aside0 (kq ≤ k) ∧ Aside0 (Below w.heap.size w wc))
 case first =>
  have H := HC3.out
  clear HC3
  replace H := Option.bind_eq_some_iff.mp H
  obtain ⟨t388, A40, H⟩ := H
  replace H : (if t388 = true then (if (l0.length : Int) > 30 then (salchowlaw25_CompareLoses.j0 k l0 l1 true) else (salchowlaw25_CompareLoses.j0 k l0 l1 (decide ((l1.length : Int) > 30)))) else (salchowlaw25_CompareLoses.j0 k l0 l1 true)) = some r := H
  have A4 := Aside0.mk A40
  clear A40
  by_cases c5 : t388 = true
  rotate_left
  ·replace c5 := Bool.eq_false_iff.mpr c5
   subst c5
   have H1 : (salchowlaw25_CompareLoses.j0 k l0 l1 true) = some r := by rw [if_neg (show ¬ (false = true) by decide)] at H; exact H
   clear H
   have H := H1
   clear H1
   have H' := Aside0.mk H
   clear H
   go_wp2_with (first | (go_at_call 11; (refine (salchowref25_Small.calls k _ _ l0 _ _ l1 _ _ ([] : List (S58)) false _ ?side1 ?side2 ?side3 ?side4 ?side5 ?side6 A4.out).mono ?_); (case side1 => repeat (first | exact (Kd.C_below HR0.out HB.out) | (with_reducible apply Kd.C_alloc) | (with_reducible apply Kd.C_drewN) | (with_reducible apply Kd.C_drew))); (case side2 => exact HC0.out); (case side3 => repeat (first | exact (Kd.C_below HR1.out HB.out) | (with_reducible apply Kd.C_alloc) | (with_reducible apply Kd.C_drewN) | (with_reducible apply Kd.C_drew))); (case side4 => exact HC1.out); (case side5 => exact Kd.C_nil _ _); (case side6 => exact Nat.le_refl _); rintro e w' ⟨rfl, ⟨nd, rfl⟩⟩; (try first | exact ⟨rfl, _, World.drewN_drewN _ _ _⟩ | exact ⟨rfl, _, Eq.trans (World.drewN_drewN _ _ _) (congrArg (World.drewN _) (Nat.add_assoc _ _ _))⟩)))
   repeat (go_quiet (first | (go_at_call 11; (refine (salchowref25_Small.calls k _ _ l0 _ _ l1 _ _ ([] : List (S58)) false _ ?side1 ?side2 ?side3 ?side4 ?side5 ?side6 A4.out).mono ?_); (case side1 => repeat (first | exact (Kd.C_below HR0.out HB.out) | (with_reducible apply Kd.C_alloc) | (with_reducible apply Kd.C_drewN) | (with_reducible apply Kd.C_drew))); (case side2 => exact HC0.out); (case side3 => repeat (first | exact (Kd.C_below HR1.out HB.out) | (with_reducible apply Kd.C_alloc) | (with_reducible apply Kd.C_drewN) | (with_reducible apply Kd.C_drew))); (case side4 => exact HC1.out); (case side5 => exact Kd.C_nil _ _); (case side6 => exact Nat.le_refl _); rintro e w' ⟨rfl, ⟨nd, rfl⟩⟩; (try first | exact ⟨rfl, _, World.drewN_drewN _ _ _⟩ | exact ⟨rfl, _, Eq.trans (World.drewN_drewN _ _ _) (congrArg (World.drewN _) (Nat.add_assoc _ _ _))⟩))); try go_wp2_with (first | (go_at_call 11; (refine (salchowref25_Small.calls k _ _ l0 _ _ l1 _ _ ([] : List (S58)) false _ ?side1 ?side2 ?side3 ?side4 ?side5 ?side6 A4.out).mono ?_); (case side1 => repeat (first | exact (Kd.C_below HR0.out HB.out) | (with_reducible apply Kd.C_alloc) | (with_reducible apply Kd.C_drewN) | (with_reducible apply Kd.C_drew))); (case side2 => exact HC0.out); (case side3 => repeat (first | exact (Kd.C_below HR1.out HB.out) | (with_reducible apply Kd.C_alloc) | (with_reducible apply Kd.C_drewN) | (with_reducible apply Kd.C_drew))); (case side4 => exact HC1.out); (case side5 => exact Kd.C_nil _ _); (case side6 => exact Nat.le_refl _); rintro e w' ⟨rfl, ⟨nd, rfl⟩⟩; (try first | exact ⟨rfl, _, World.drewN_drewN _ _ _⟩ | exact ⟨rfl, _, Eq.trans (World.drewN_drewN _ _ _) (congrArg (World.drewN _) (Nat.add_assoc _ _ _))⟩))))
   go_meet
   case rel => exact ⟨_, (true), (by first | rfl | (simp; done) | (simp [*]; done)), H', ⟨by first | omega | exact Nat.le_refl _⟩, ⟨by repeat (first | (with_reducible first | exact HB.out | apply bA | apply bN | apply bD) | exact HB.out)⟩⟩
  subst c5
  have H1 : (if (l0.length : Int) > 30 then (salchowlaw25_CompareLoses.j0 k l0 l1 true) else (salchowlaw25_CompareLoses.j0 k l0 l1 (decide ((l1.length : Int) > 30)))) = some r := by rw [if_pos rfl] at H; exact H
  clear H
  have H := H1
  clear H1
  by_cases c6 : (l0.length : Int) > 30
  rotate_left
  ·rw [if_neg c6] at H
   have c6b0 : decide (30 < (l0.length : Int)) = false := decide_eq_false c6
   have c6b1 : decide (30 < l0.length) = false := decide_eq_false (by omega)
   clear c6
   (first | rw [c6b0] | (simp only [i64_w, i32_w]; rw [c6b0]) | skip)
   have H' := Aside0.mk H
   clear H
   go_wp2_with (first | (go_at_call 11; (refine (salchowref25_Small.calls k _ _ l0 _ _ l1 _ _ ([] : List (S58)) true _ ?side1 ?side2 ?side3 ?side4 ?side5 ?side6 A4.out).mono ?_); (case side1 => repeat (first | exact (Kd.C_below HR0.out HB.out) | (with_reducible apply Kd.C_alloc) | (with_reducible apply Kd.C_drewN) | (with_reducible apply Kd.C_drew))); (case side2 => exact HC0.out); (case side3 => repeat (first | exact (Kd.C_below HR1.out HB.out) | (with_reducible apply Kd.C_alloc) | (with_reducible apply Kd.C_drewN) | (with_reducible apply Kd.C_drew))); (case side4 => exact HC1.out); (case side5 => exact Kd.C_nil _ _); (case side6 => exact Nat.le_refl _); rintro e w' ⟨rfl, ⟨nd, rfl⟩⟩; (try first | exact ⟨rfl, _, World.drewN_drewN _ _ _⟩ | exact ⟨rfl, _, Eq.trans (World.drewN_drewN _ _ _) (congrArg (World.drewN _) (Nat.add_assoc _ _ _))⟩)))
   repeat (go_quiet (first | (go_at_call 11; (refine (salchowref25_Small.calls k _ _ l0 _ _ l1 _ _ ([] : List (S58)) true _ ?side1 ?side2 ?side3 ?side4 ?side5 ?side6 A4.out).mono ?_); (case side1 => repeat (first | exact (Kd.C_below HR0.out HB.out) | (with_reducible apply Kd.C_alloc) | (with_reducible apply Kd.C_drewN) | (with_reducible apply Kd.C_drew))); (case side2 => exact HC0.out); (case side3 => repeat (first | exact (Kd.C_below HR1.out HB.out) | (with_reducible apply Kd.C_alloc) | (with_reducible apply Kd.C_drewN) | (with_reducible apply Kd.C_drew))); (case side4 => exact HC1.out); (case side5 => exact Kd.C_nil _ _); (case side6 => exact Nat.le_refl _); rintro e w' ⟨rfl, ⟨nd, rfl⟩⟩; (try first | exact ⟨rfl, _, World.drewN_drewN _ _ _⟩ | exact ⟨rfl, _, Eq.trans (World.drewN_drewN _ _ _) (congrArg (World.drewN _) (Nat.add_assoc _ _ _))⟩))); try go_wp2_with (first | (go_at_call 11; (refine (salchowref25_Small.calls k _ _ l0 _ _ l1 _ _ ([] : List (S58)) true _ ?side1 ?side2 ?side3 ?side4 ?side5 ?side6 A4.out).mono ?_); (case side1 => repeat (first | exact (Kd.C_below HR0.out HB.out) | (with_reducible apply Kd.C_alloc) | (with_reducible apply Kd.C_drewN) | (with_reducible apply Kd.C_drew))); (case side2 => exact HC0.out); (case side3 => repeat (first | exact (Kd.C_below HR1.out HB.out) | (with_reducible apply Kd.C_alloc) | (with_reducible apply Kd.C_drewN) | (with_reducible apply Kd.C_drew))); (case side4 => exact HC1.out); (case side5 => exact Kd.C_nil _ _); (case side6 => exact Nat.le_refl _); rintro e w' ⟨rfl, ⟨nd, rfl⟩⟩; (try first | exact ⟨rfl, _, World.drewN_drewN _ _ _⟩ | exact ⟨rfl, _, Eq.trans (World.drewN_drewN _ _ _) (congrArg (World.drewN _) (Nat.add_assoc _ _ _))⟩))))
   go_meet
   case rel => exact ⟨_, (decide ((l1.length : Int) > 30)), (by first | rfl | (simp; done) | (simp [*]; done)), H', ⟨by first | omega | exact Nat.le_refl _⟩, ⟨by repeat (first | (with_reducible first | exact HB.out | apply bA | apply bN | apply bD) | exact HB.out)⟩⟩
  rw [if_pos c6] at H
  have c6b0 : decide (30 < (l0.length : Int)) = true := decide_eq_true c6
  have c6b1 : decide (30 < l0.length) = true := decide_eq_true (by omega)
  clear c6
  (first | rw [c6b0] | (simp only [i64_w, i32_w]; rw [c6b0]) | skip)
  have H' := Aside0.mk H
  clear H
  go_wp2_with (first | (go_at_call 11; (refine (salchowref25_Small.calls k _ _ l0 _ _ l1 _ _ ([] : List (S58)) true _ ?side1 ?side2 ?side3 ?side4 ?side5 ?side6 A4.out).mono ?_); (case side1 => repeat (first | exact (Kd.C_below HR0.out HB.out) | (with_reducible apply Kd.C_alloc) | (with_reducible apply Kd.C_drewN) | (with_reducible apply Kd.C_drew))); (case side2 => exact HC0.out); (case side3 => repeat (first | exact (Kd.C_below HR1.out HB.out) | (with_reducible apply Kd.C_alloc) | (with_reducible apply Kd.C_drewN) | (with_reducible apply Kd.C_drew))); (case side4 => exact HC1.out); (case side5 => exact Kd.C_nil _ _); (case side6 => exact Nat.le_refl _); rintro e w' ⟨rfl, ⟨nd, rfl⟩⟩; (try first | exact ⟨rfl, _, World.drewN_drewN _ _ _⟩ | exact ⟨rfl, _, Eq.trans (World.drewN_drewN _ _ _) (congrArg (World.drewN _) (Nat.add_assoc _ _ _))⟩)))
  repeat (go_quiet (first | (go_at_call 11; (refine (salchowref25_Small.calls k _ _ l0 _ _ l1 _ _ ([] : List (S58)) true _ ?side1 ?side2 ?side3 ?side4 ?side5 ?side6 A4.out).mono ?_); (case side1 => repeat (first | exact (Kd.C_below HR0.out HB.out) | (with_reducible apply Kd.C_alloc) | (with_reducible apply Kd.C_drewN) | (with_reducible apply Kd.C_drew))); (case side2 => exact HC0.out); (case side3 => repeat (first | exact (Kd.C_below HR1.out HB.out) | (with_reducible apply Kd.C_alloc) | (with_reducible apply Kd.C_drewN) | (with_reducible apply Kd.C_drew))); (case side4 => exact HC1.out); (case side5 => exact Kd.C_nil _ _); (case side6 => exact Nat.le_refl _); rintro e w' ⟨rfl, ⟨nd, rfl⟩⟩; (try first | exact ⟨rfl, _, World.drewN_drewN _ _ _⟩ | exact ⟨rfl, _, Eq.trans (World.drewN_drewN _ _ _) (congrArg (World.drewN _) (Nat.add_assoc _ _ _))⟩))); try go_wp2_with (first | (go_at_call 11; (refine (salchowref25_Small.calls k _ _ l0 _ _ l1 _ _ ([] : List (S58)) true _ ?side1 ?side2 ?side3 ?side4 ?side5 ?side6 A4.out).mono ?_); (case side1 => repeat (first | exact (Kd.C_below HR0.out HB.out) | (with_reducible apply Kd.C_alloc) | (with_reducible apply Kd.C_drewN) | (with_reducible apply Kd.C_drew))); (case side2 => exact HC0.out); (case side3 => repeat (first | exact (Kd.C_below HR1.out HB.out) | (with_reducible apply Kd.C_alloc) | (with_reducible apply Kd.C_drewN) | (with_reducible apply Kd.C_drew))); (case side4 => exact HC1.out); (case side5 => exact Kd.C_nil _ _); (case side6 => exact Nat.le_refl _); rintro e w' ⟨rfl, ⟨nd, rfl⟩⟩; (try first | exact ⟨rfl, _, World.drewN_drewN _ _ _⟩ | exact ⟨rfl, _, Eq.trans (World.drewN_drewN _ _ _) (congrArg (World.drewN _) (Nat.add_assoc _ _ _))⟩))))
  go_meet
  case rel => exact ⟨_, (true), (by first | rfl | (simp; done) | (simp [*]; done)), H', ⟨by first | omega | exact Nat.le_refl _⟩, ⟨by repeat (first | (with_reducible first | exact HB.out | apply bA | apply bN | apply bD) | exact HB.out)⟩⟩
 clear HC3
 try clear c1
 try clear p2
 try clear c5
 try clear c6
 try clear c6b0
 try clear c6b1
 obtain ⟨kq, x27_2, rfl, HA, HJ2, HB⟩ := hcut
 cases kq with
 | zero => exact absurd HA.out (by simp [salchowlaw25_CompareLoses.j0])
 | succ kj2 =>
  have H := HA.out
  clear HA
  simp only [salchowlaw25_CompareLoses.j0] at H
  by_cases c7 : x27_2 = true
  ·subst c7
   have H1 : ((salchowlaw25_awake.f kj2).bind fun t389 => (some t389)) = some r := by rw [if_pos rfl] at H; exact H
   clear H
   have H := H1
   clear H1
   replace H := Option.bind_eq_some_iff.mp H
   obtain ⟨t389, A80, H⟩ := H
   replace H : (some t389) = some r := H
   have A8 := Aside0.mk A80
   clear A80
   obtain rfl := Option.some.inj H
   go_wp2_with (first | (go_at_call 12; (with_reducible refine (salchowlaw25_awake.calls kj2  t389 _ A8.out).mono ?_); rintro e w9 ⟨rfl, hb⟩; have n0_ := Aside0.mk (below_step (by repeat (first | (with_reducible first | exact HB.out | apply bA | apply bN | apply bD) | exact HB.out)) hb); clear HB; have HB := n0_; clear n0_; (try clear hb); (try clear hb2); (try clear hk); (try clear hi)))
   repeat (go_quiet (first | (go_at_call 12; (with_reducible refine (salchowlaw25_awake.calls kj2  t389 _ A8.out).mono ?_); rintro e w9 ⟨rfl, hb⟩; have n0_ := Aside0.mk (below_step (by repeat (first | (with_reducible first | exact HB.out | apply bA | apply bN | apply bD) | exact HB.out)) hb); clear HB; have HB := n0_; clear n0_; (try clear hb); (try clear hb2); (try clear hk); (try clear hi))); try go_wp2_with (first | (go_at_call 12; (with_reducible refine (salchowlaw25_awake.calls kj2  t389 _ A8.out).mono ?_); rintro e w9 ⟨rfl, hb⟩; have n0_ := Aside0.mk (below_step (by repeat (first | (with_reducible first | exact HB.out | apply bA | apply bN | apply bD) | exact HB.out)) hb); clear HB; have HB := n0_; clear n0_; (try clear hb); (try clear hb2); (try clear hk); (try clear hi))))
   go_ret
   exact ⟨by first | rfl | (simp [errW_none, errW_some] <;> rfl) | (simp [*, errW_none, errW_some] <;> rfl), by repeat (first | (with_reducible first | exact HB.out | apply bA | apply bN | apply bD) | exact HB.out)⟩
  replace c7 := Bool.eq_false_iff.mpr c7
  subst c7
  have H1 : ((compare_Script.f kj2 l0 l1).bind fun bt390 => ((compare_Missing.f kj2 bt390.1).bind fun bt394 => (if bt390.2 = 0 then (salchowlaw25_CompareLoses.j1 kj2 l0 l1 bt394.1 (bt394.2 != 0)) else (salchowlaw25_CompareLoses.j1 kj2 l0 l1 bt394.1 true)))) = some r := by rw [if_neg (show ¬ (false = true) by decide)] at H; exact H
  clear H
  have H := H1
  clear H1
  replace H := Option.bind_eq_some_iff.mp H
  obtain ⟨⟨t390, t391⟩, A100, H⟩ := H
  replace H : ((compare_Missing.f kj2 t390).bind fun bt394 => (if t391 = 0 then (salchowlaw25_CompareLoses.j1 kj2 l0 l1 bt394.1 (bt394.2 != 0)) else (salchowlaw25_CompareLoses.j1 kj2 l0 l1 bt394.1 true))) = some r := H
  have A10 := Aside0.mk A100
  clear A100
  replace H := Option.bind_eq_some_iff.mp H
  obtain ⟨⟨t394, t395⟩, A110, H⟩ := H
  replace H : (if t391 = 0 then (salchowlaw25_CompareLoses.j1 kj2 l0 l1 t394 (t395 != 0)) else (salchowlaw25_CompareLoses.j1 kj2 l0 l1 t394 true)) = some r := H
  have A11 := Aside0.mk A110
  clear A110
  have HC12 := Aside0.mk H
  clear H
  go_upto_region 5 with (first | (go_at_call 15; (with_reducible refine (compare_Script.calls kj2 _ _ l0 _ _ l1 t390 t391 _ ?side1 ?side2 ?side3 ?side4 A10.out).mono ?_); (case side1 => repeat (first | exact (Kd.C_below HR0.out HB.out) | (with_reducible apply Kd.C_alloc) | (with_reducible apply Kd.C_drewN) | (with_reducible apply Kd.C_drew))); (case side2 => exact HC0.out); (case side3 => repeat (first | exact (Kd.C_below HR1.out HB.out) | (with_reducible apply Kd.C_alloc) | (with_reducible apply Kd.C_drewN) | (with_reducible apply Kd.C_drew))); (case side4 => exact HC1.out); rintro e w13 ⟨v392, rfl, ho0, hb⟩; have n0_ := Aside0.mk (Kd.R_lower ho0 (below_size (by repeat (first | (with_reducible first | exact HB.out | apply bA | apply bN | apply bD) | exact HB.out)))); have n1_ := Aside0.mk (below_step (by repeat (first | (with_reducible first | exact HB.out | apply bA | apply bN | apply bD) | exact HB.out)) hb); clear HB; have HO393 := n0_; have HB := n1_; clear n0_ n1_; (try clear hb); (try clear hb2); (try clear hk); (try clear hi); (try clear ho0); obtain ⟨Ao14, co14, eo14⟩ := Kd.R_slice HO393.out; subst eo14) | (go_at_call 25; (with_reducible refine (compare_Missing.calls kj2 _ _ t390 t394 t395 _ ?side1 ?side2 A11.out).mono ?_); (case side1 => repeat (first | exact (Kd.R_reads' HO393.out).2.2 | (with_reducible apply Kd.C_alloc) | (with_reducible apply Kd.C_drewN) | (with_reducible apply Kd.C_drew))); (case side2 => exact (Kd.R_reads' HO393.out).2.1); rintro e w15 ⟨v396, rfl, ho0, hb⟩; have n0_ := Aside0.mk (Kd.R_below (by (with_reducible repeat (first | apply Kd.rA | apply Kd.rN | apply Kd.rD)); exact HO393.out) hb); have n1_ := Aside0.mk (Kd.R_lower ho0 (below_size (by repeat (first | (with_reducible first | exact HB.out | apply bA | apply bN | apply bD) | exact HB.out)))); have n2_ := Aside0.mk (below_step (by repeat (first | (with_reducible first | exact HB.out | apply bA | apply bN | apply bD) | exact HB.out)) hb); clear HO393; clear HB; have HO393 := n0_; have HO397 := n1_; have HB := n2_; clear n0_ n1_ n2_; (try clear hb); (try clear hb2); (try clear hk); (try clear hi); (try clear ho0)))
  repeat (go_quiet (first | (go_at_call 15; (with_reducible refine (compare_Script.calls kj2 _ _ l0 _ _ l1 t390 t391 _ ?side1 ?side2 ?side3 ?side4 A10.out).mono ?_); (case side1 => repeat (first | exact (Kd.C_below HR0.out HB.out) | (with_reducible apply Kd.C_alloc) | (with_reducible apply Kd.C_drewN) | (with_reducible apply Kd.C_drew))); (case side2 => exact HC0.out); (case side3 => repeat (first | exact (Kd.C_below HR1.out HB.out) | (with_reducible apply Kd.C_alloc) | (with_reducible apply Kd.C_drewN) | (with_reducible apply Kd.C_drew))); (case side4 => exact HC1.out); rintro e w13 ⟨v392, rfl, ho0, hb⟩; have n0_ := Aside0.mk (Kd.R_lower ho0 (below_size (by repeat (first | (with_reducible first | exact HB.out | apply bA | apply bN | apply bD) | exact HB.out)))); have n1_ := Aside0.mk (below_step (by repeat (first | (with_reducible first | exact HB.out | apply bA | apply bN | apply bD) | exact HB.out)) hb); clear HB; have HO393 := n0_; have HB := n1_; clear n0_ n1_; (try clear hb); (try clear hb2); (try clear hk); (try clear hi); (try clear ho0); obtain ⟨Ao14, co14, eo14⟩ := Kd.R_slice HO393.out; subst eo14) | (go_at_call 25; (with_reducible refine (compare_Missing.calls kj2 _ _ t390 t394 t395 _ ?side1 ?side2 A11.out).mono ?_); (case side1 => repeat (first | exact (Kd.R_reads' HO393.out).2.2 | (with_reducible apply Kd.C_alloc) | (with_reducible apply Kd.C_drewN) | (with_reducible apply Kd.C_drew))); (case side2 => exact (Kd.R_reads' HO393.out).2.1); rintro e w15 ⟨v396, rfl, ho0, hb⟩; have n0_ := Aside0.mk (Kd.R_below (by (with_reducible repeat (first | apply Kd.rA | apply Kd.rN | apply Kd.rD)); exact HO393.out) hb); have n1_ := Aside0.mk (Kd.R_lower ho0 (below_size (by repeat (first | (with_reducible first | exact HB.out | apply bA | apply bN | apply bD) | exact HB.out)))); have n2_ := Aside0.mk (below_step (by repeat (first | (with_reducible first | exact HB.out | apply bA | apply bN | apply bD) | exact HB.out)) hb); clear HO393; clear HB; have HO393 := n0_; have HO397 := n1_; have HB := n2_; clear n0_ n1_ n2_; (try clear hb); (try clear hb2); (try clear hk); (try clear hi); (try clear ho0))); go_upto_region 5 with (first | (go_at_call 15; (with_reducible refine (compare_Script.calls kj2 _ _ l0 _ _ l1 t390 t391 _ ?side1 ?side2 ?side3 ?side4 A10.out).mono ?_); (case side1 => repeat (first | exact (Kd.C_below HR0.out HB.out) | (with_reducible apply Kd.C_alloc) | (with_reducible apply Kd.C_drewN) | (with_reducible apply Kd.C_drew))); (case side2 => exact HC0.out); (case side3 => repeat (first | exact (Kd.C_below HR1.out HB.out) | (with_reducible apply Kd.C_alloc) | (with_reducible apply Kd.C_drewN) | (with_reducible apply Kd.C_drew))); (case side4 => exact HC1.out); rintro e w13 ⟨v392, rfl, ho0, hb⟩; have n0_ := Aside0.mk (Kd.R_lower ho0 (below_size (by repeat (first | (with_reducible first | exact HB.out | apply bA | apply bN | apply bD) | exact HB.out)))); have n1_ := Aside0.mk (below_step (by repeat (first | (with_reducible first | exact HB.out | apply bA | apply bN | apply bD) | exact HB.out)) hb); clear HB; have HO393 := n0_; have HB := n1_; clear n0_ n1_; (try clear hb); (try clear hb2); (try clear hk); (try clear hi); (try clear ho0); obtain ⟨Ao14, co14, eo14⟩ := Kd.R_slice HO393.out; subst eo14) | (go_at_call 25; (with_reducible refine (compare_Missing.calls kj2 _ _ t390 t394 t395 _ ?side1 ?side2 A11.out).mono ?_); (case side1 => repeat (first | exact (Kd.R_reads' HO393.out).2.2 | (with_reducible apply Kd.C_alloc) | (with_reducible apply Kd.C_drewN) | (with_reducible apply Kd.C_drew))); (case side2 => exact (Kd.R_reads' HO393.out).2.1); rintro e w15 ⟨v396, rfl, ho0, hb⟩; have n0_ := Aside0.mk (Kd.R_below (by (with_reducible repeat (first | apply Kd.rA | apply Kd.rN | apply Kd.rD)); exact HO393.out) hb); have n1_ := Aside0.mk (Kd.R_lower ho0 (below_size (by repeat (first | (with_reducible first | exact HB.out | apply bA | apply bN | apply bD) | exact HB.out)))); have n2_ := Aside0.mk (below_step (by repeat (first | (with_reducible first | exact HB.out | apply bA | apply bN | apply bD) | exact HB.out)) hb); clear HO393; clear HB; have HO393 := n0_; have HO397 := n1_; have HB := n2_; clear n0_ n1_ n2_; (try clear hb); (try clear hb2); (try clear hk); (try clear hi); (try clear ho0))))
  (try simp only [Act.put, List.setIfInBounds_toArray, List.set_cons_zero, List.set_cons_succ])
  go_cut [45] (fun v45 wc => ∃ (kq : Nat) (x45_11 : Bool), v45 = .bool x45_11 ∧ Aside0 (salchowlaw25_CompareLoses.j1 kq l0 l1 t394 x45_11 = some r) ∧ Aside0 (kq ≤ kj2) ∧ Aside0 (Kd.R (Kd.int .i64) 3 wc w.heap.size (fun _ => True) v396 t394) ∧ Aside0 (Below w.heap.size w wc))
  case first =>
   have H := HC12.out
   clear HC12
   by_cases c16 : t391 = 0
   rotate_left
   ·rw [if_neg c16] at H
    have c16b0 : (t391 == 0) = false := beq_eq_false_iff_ne.mpr c16
    have c16b1 : (t391 != 0) = true := bne_iff_ne.mpr c16
    (first | rw [c16b0] | (simp only [i64_w, i32_w]; rw [c16b0]) | skip)
    have H' := Aside0.mk H
    clear H
    go_wp2
    repeat (go_quiet (fail); try go_wp2)
    go_meet
    case rel => exact ⟨_, (true), (by first | rfl | (simp; done) | (simp [*]; done)), H', ⟨by have := HJ2.out; first | omega | exact Nat.le_refl _⟩, ⟨by (with_reducible repeat (first | apply Kd.rA | apply Kd.rN | apply Kd.rD)); exact HO397.out⟩, ⟨by repeat (first | (with_reducible first | exact HB.out | apply bA | apply bN | apply bD) | exact HB.out)⟩⟩
   rw [if_pos c16] at H
   have c16b0 : (t391 == 0) = true := beq_iff_eq.mpr c16
   have c16b1 : (t391 != 0) = false := bne_eq_false_iff_eq.mpr c16
   clear c16
   (first | rw [c16b0] | (simp only [i64_w, i32_w]; rw [c16b0]) | skip)
   have H' := Aside0.mk H
   clear H
   go_wp2
   repeat (go_quiet (fail); try go_wp2)
   go_meet
   case rel => exact ⟨_, ((t395 != 0)), (by first | rfl | (simp; done) | (simp [*]; done)), H', ⟨by have := HJ2.out; first | omega | exact Nat.le_refl _⟩, ⟨by (with_reducible repeat (first | apply Kd.rA | apply Kd.rN | apply Kd.rD)); exact HO397.out⟩, ⟨by repeat (first | (with_reducible first | exact HB.out | apply bA | apply bN | apply bD) | exact HB.out)⟩⟩
  clear HC12
  try clear c1
  try clear p2
  try clear c5
  try clear c6
  try clear c6b0
  try clear c6b1
  try clear c7
  try clear c16
  try clear c16b0
  try clear c16b1
  try clear p2
  obtain ⟨kq, x45_11, rfl, HA, HJ11, HO_7, HB⟩ := hcut
  cases kq with
  | zero => exact absurd HA.out (by simp [salchowlaw25_CompareLoses.j1])
  | succ kj11 =>
   have H := HA.out
   clear HA
   simp only [salchowlaw25_CompareLoses.j1] at H
   by_cases c17 : x45_11 = true
   ·subst c17
    have H1 : (some false) = some r := by rw [if_pos rfl] at H; exact H
    clear H
    have H := H1
    clear H1
    obtain rfl := Option.some.inj H
    go_wp2
    repeat (go_quiet (fail); try go_wp2)
    go_ret
    exact ⟨by first | rfl | (simp [errW_none, errW_some] <;> rfl) | (simp [*, errW_none, errW_some] <;> rfl), by repeat (first | (with_reducible first | exact HB.out | apply bA | apply bN | apply bD) | exact HB.out)⟩
   replace c17 := Bool.eq_false_iff.mpr c17
   subst c17
   have H1 : (salchowlaw25_CompareLoses.l0 kj11 l0 l1 t394 (([] : List ByteArray)) 0 0) = some r := by rw [if_neg (show ¬ (false = true) by decide)] at H; exact H
   clear H
   have H := H1
   clear H1
   obtain ⟨y398, hy398⟩ : ∃ y_ : List ByteArray, y_ = (([] : List ByteArray)) := ⟨_, rfl⟩
   replace H : (salchowlaw25_CompareLoses.l0 kj11 l0 l1 t394 y398 0 0) = some r := by first | (rw [hy398]; with_reducible exact H) | (have H2_ := (Option.bind_some _ _).symm.trans H; rw [hy398]; with_reducible exact H2_) | (have H2_ := (Option.bind_some _ _).symm.trans H; with_reducible exact H2_) | with_reducible exact H | (rw [hy398]; exact H) | exact H
   have Ny398 := Aside0.mk hy398
   clear hy398
   have H' := Aside0.mk H
   clear H
   go_wp2_with (first | ((with_reducible refine gate_dst (N := 46) rfl ?_); (try (refine gate_guard (by rfl) ?_; dsimp only)); refine Kd.R_lit Kd.string _ 9 ?hg (N := 46) ?hd (xs := ([] : List ByteArray)) (inner := []) (ok := fun _ => True) (okp := fun _ => True) ?hr ?hp (fun _ hk => hk) trivial (Below.refl _ _) (Nat.le_refl _) (by simp) ?_; (case hd => rfl); (case hg => rfl); (case hr => first | (go_simp; done) | (go_simp; rfl)); (case hp => exact (Reps.none _ _)); intro v399 w18 ho19 hb hg_ hnew_; clear hg_ hnew_; (first | rw [← Ny398.out] at ho19 | (simp only [Int.reduceToNat] at ho19; rw [← Ny398.out] at ho19)); have n0_ := Aside0.mk (Kd.R_below (by (with_reducible repeat (first | apply Kd.rA | apply Kd.rN | apply Kd.rD)); exact HO_7.out) hb); have n1_ := Aside0.mk (Kd.R_lower ho19 (below_size (by repeat (first | (with_reducible first | exact HB.out | apply bA | apply bN | apply bD) | exact HB.out)))); have n2_ := Aside0.mk (below_step (by repeat (first | (with_reducible first | exact HB.out | apply bA | apply bN | apply bD) | exact HB.out)) hb); clear HO_7; clear HB; have HO_7 := n0_; have HO400 := n1_; have HB := n2_; clear n0_ n1_ n2_; clear hb ho19))
   repeat (go_quiet (first | ((with_reducible refine gate_dst (N := 46) rfl ?_); (try (refine gate_guard (by rfl) ?_; dsimp only)); refine Kd.R_lit Kd.string _ 9 ?hg (N := 46) ?hd (xs := ([] : List ByteArray)) (inner := []) (ok := fun _ => True) (okp := fun _ => True) ?hr ?hp (fun _ hk => hk) trivial (Below.refl _ _) (Nat.le_refl _) (by simp) ?_; (case hd => rfl); (case hg => rfl); (case hr => first | (go_simp; done) | (go_simp; rfl)); (case hp => exact (Reps.none _ _)); intro v399 w18 ho19 hb hg_ hnew_; clear hg_ hnew_; (first | rw [← Ny398.out] at ho19 | (simp only [Int.reduceToNat] at ho19; rw [← Ny398.out] at ho19)); have n0_ := Aside0.mk (Kd.R_below (by (with_reducible repeat (first | apply Kd.rA | apply Kd.rN | apply Kd.rD)); exact HO_7.out) hb); have n1_ := Aside0.mk (Kd.R_lower ho19 (below_size (by repeat (first | (with_reducible first | exact HB.out | apply bA | apply bN | apply bD) | exact HB.out)))); have n2_ := Aside0.mk (below_step (by repeat (first | (with_reducible first | exact HB.out | apply bA | apply bN | apply bD) | exact HB.out)) hb); clear HO_7; clear HB; have HO_7 := n0_; have HO400 := n1_; have HB := n2_; clear n0_ n1_ n2_; clear hb ho19)); try go_wp2_with (first | ((with_reducible refine gate_dst (N := 46) rfl ?_); (try (refine gate_guard (by rfl) ?_; dsimp only)); refine Kd.R_lit Kd.string _ 9 ?hg (N := 46) ?hd (xs := ([] : List ByteArray)) (inner := []) (ok := fun _ => True) (okp := fun _ => True) ?hr ?hp (fun _ hk => hk) trivial (Below.refl _ _) (Nat.le_refl _) (by simp) ?_; (case hd => rfl); (case hg => rfl); (case hr => first | (go_simp; done) | (go_simp; rfl)); (case hp => exact (Reps.none _ _)); intro v399 w18 ho19 hb hg_ hnew_; clear hg_ hnew_; (first | rw [← Ny398.out] at ho19 | (simp only [Int.reduceToNat] at ho19; rw [← Ny398.out] at ho19)); have n0_ := Aside0.mk (Kd.R_below (by (with_reducible repeat (first | apply Kd.rA | apply Kd.rN | apply Kd.rD)); exact HO_7.out) hb); have n1_ := Aside0.mk (Kd.R_lower ho19 (below_size (by repeat (first | (with_reducible first | exact HB.out | apply bA | apply bN | apply bD) | exact HB.out)))); have n2_ := Aside0.mk (below_step (by repeat (first | (with_reducible first | exact HB.out | apply bA | apply bN | apply bD) | exact HB.out)) hb); clear HO_7; clear HB; have HO_7 := n0_; have HO400 := n1_; have HB := n2_; clear n0_ n1_ n2_; clear hb ho19)))
   go_loopg [9, 10, 11] kj11 (fun kq v9 v10 v11 w' => ∃ (x9_3 : List ByteArray) (x10_3 : Int) (x11_3 : Int), v10 = .int .i64 x10_3 ∧ v11 = .int .i64 x11_3 ∧ Aside0 (salchowlaw25_CompareLoses.l0 kq l0 l1 t394 x9_3 x10_3 x11_3 = some r) ∧ Aside0 (kq ≤ kj11) ∧ Aside0 (Kd.R (Kd.int .i64) 3 w' w.heap.size (fun _ => True) v396 t394) ∧ Aside0 (Kd.R Kd.string 9 w' w.heap.size (fun _ => True) v9 x9_3) ∧ Aside0 (Below w.heap.size w w'))
   case atStart => exact ⟨(y398), (0), (0), (by first | rfl | (simp; done) | (simp [*]; done)), (by first | rfl | (simp; done) | (simp [*]; done)), H', ⟨Nat.le_refl _⟩, ⟨by (with_reducible repeat (first | apply Kd.rA | apply Kd.rN | apply Kd.rD)); exact HO_7.out⟩, ⟨by (with_reducible repeat (first | apply Kd.rA | apply Kd.rN | apply Kd.rD)); exact HO400.out⟩, ⟨by repeat (first | (with_reducible first | exact HB.out | apply bA | apply bN | apply bD) | exact HB.out)⟩⟩
   case round =>
    clear H'
    try clear c1
    try clear p2
    try clear c5
    try clear c6
    try clear c6b0
    try clear c6b1
    try clear c7
    try clear c16
    try clear c16b0
    try clear c16b1
    try clear c17
    try clear p2
    obtain ⟨x9_3, x10_3, x11_3, rfl, rfl, HA, HK3, HO_7, HO_9, HB⟩ := hrel
    cases gk with
    | zero => exact absurd HA.out (by simp [salchowlaw25_CompareLoses.l0])
    | succ k3 =>
     have H := HA.out
     clear HA
     simp only [salchowlaw25_CompareLoses.l0] at H
     by_cases c20 : x11_3 < (l0.length : Int)
     ·rw [if_pos c20] at H
      have c20b0 : decide (x11_3 < (l0.length : Int)) = true := decide_eq_true c20
      clear c20
      by_cases c21 : x10_3 < (t394.length : Int)
      rotate_left
      ·rw [if_neg c21] at H
       have c21b0 : decide (x10_3 < (t394.length : Int)) = false := decide_eq_false c21
       clear c21
       by_cases c29 : 0 ≤ x11_3
       rotate_left
       ·rw [if_neg c29] at H
        exact absurd H (by simp)
       rw [if_pos c29] at H
       have c29b0 : decide (0 ≤ x11_3) = true := decide_eq_true c29
       clear c29
       by_cases c30 : x9_3.length < 8796093022208
       rotate_left
       ·rw [if_neg c30] at H
        exact absurd H (by simp)
       rw [if_pos c30] at H
       have LMc30 := Aside0.mk c30
       clear c30
       obtain ⟨y407, hy407⟩ : ∃ y_ : List ByteArray, y_ = (x9_3 ++ [(rd_T50 l0 x11_3).f0]) := ⟨_, rfl⟩
       replace H : (salchowlaw25_CompareLoses.l0 k3 l0 l1 t394 y407 x10_3 (wrap64 (x11_3 + 1))) = some r := by first | (rw [hy407]; with_reducible exact H) | (have H2_ := (Option.bind_some _ _).symm.trans H; rw [hy407]; with_reducible exact H2_) | (have H2_ := (Option.bind_some _ _).symm.trans H; with_reducible exact H2_) | with_reducible exact H | (rw [hy407]; exact H) | exact H
       have Ny407 := Aside0.mk hy407
       clear hy407
       have H' := Aside0.mk H
       clear H
       obtain ⟨Ao31, co31, eo31⟩ := Kd.R_slice HO_7.out
       subst eo31
       have p406 : 0 ≤ (x11_3 : Int) := of_decide_eq_true (by first | (with_reducible assumption) | assumption)
       have q406 : x11_3 < (l0.length : Int) := of_decide_eq_true (by first | (with_reducible assumption) | assumption)
       obtain ⟨ad406, e406, hx406_0, hx406_1, hx406_2, hx406_3, hx406_4⟩ := at_T50 HR0.out x11_3 p406 q406
       cases e406
       replace hx406_0 := (HB.out.cell (World.block_lt_of_cell? w _ hx406_0)).trans hx406_0
       replace hx406_1 := (HB.out.cell (World.block_lt_of_cell? w _ hx406_1)).trans hx406_1
       replace hx406_2 := (HB.out.cell (World.block_lt_of_cell? w _ hx406_2)).trans hx406_2
       replace hx406_3 := (HB.out.cell (World.block_lt_of_cell? w _ hx406_3)).trans hx406_3
       replace hx406_4 := (HB.out.cell (World.block_lt_of_cell? w _ hx406_4)).trans hx406_4
       replace p406 := eq_true p406
       replace q406 := eq_true q406
       go_wp2_with (first | ((with_reducible refine gate_builtin (b := .append) (xs := #[.tmp 67, .tmp 73]) rfl ?_); (try (refine gate_guard (by rfl) ?_; dsimp only)); at_builtin; refine Kd.R_append Kd.string (w0 := w) w.heap.size rfl (.tmp 67) (.tmp 73) 48 9 (.string ⟨#[]⟩) 16 rfl Try.underlying48 info9 rfl (by decide) (by omega) u9 x9_3 ((rd_T50 l0 x11_3).f0) [.string ((rd_T50 l0 x11_3).f0)] (fun _ => True) (fun _ => False) rfl rfl ?aP (fun _ hk => hk.elim) ?aF ?aO ?aB ?aS ?aL ?_; (case aP => exact rfl); (case aB => exact (by repeat (first | (with_reducible first | exact HB.out | apply bA | apply bN | apply bD) | exact HB.out))); (case aF => exact (fun _ _ => trivial)); (case aO => exact (by (with_reducible repeat (first | apply Kd.rA | apply Kd.rN | apply Kd.rD)); exact HO_9.out)); (case aS => exact (below_size (by repeat (first | (with_reducible first | exact HB.out | apply bA | apply bN | apply bD) | exact HB.out)))); (case aL => have := LMc30.out; omega); intro v408 w32 ho hb hg hat; rw [← Ny407.out] at ho; have n0_ := Aside0.mk (Kd.R_over' (by (with_reducible repeat (first | apply Kd.rA | apply Kd.rN | apply Kd.rD)); exact HO_7.out) (Kd.R_typed (by (with_reducible repeat (first | apply Kd.rA | apply Kd.rN | apply Kd.rD)); exact HO_9.out)) (by decide) hg); have n1_ := Aside0.mk (hb); have n2_ := Aside0.mk (ho); clear HO_7; clear HB; clear HO_9; have HO_7 := n0_; have HB := n1_; have HO409 := n2_; clear n0_ n1_ n2_; clear ho hb hg hat))
       repeat (go_quiet (first | ((with_reducible refine gate_builtin (b := .append) (xs := #[.tmp 67, .tmp 73]) rfl ?_); (try (refine gate_guard (by rfl) ?_; dsimp only)); at_builtin; refine Kd.R_append Kd.string (w0 := w) w.heap.size rfl (.tmp 67) (.tmp 73) 48 9 (.string ⟨#[]⟩) 16 rfl Try.underlying48 info9 rfl (by decide) (by omega) u9 x9_3 ((rd_T50 l0 x11_3).f0) [.string ((rd_T50 l0 x11_3).f0)] (fun _ => True) (fun _ => False) rfl rfl ?aP (fun _ hk => hk.elim) ?aF ?aO ?aB ?aS ?aL ?_; (case aP => exact rfl); (case aB => exact (by repeat (first | (with_reducible first | exact HB.out | apply bA | apply bN | apply bD) | exact HB.out))); (case aF => exact (fun _ _ => trivial)); (case aO => exact (by (with_reducible repeat (first | apply Kd.rA | apply Kd.rN | apply Kd.rD)); exact HO_9.out)); (case aS => exact (below_size (by repeat (first | (with_reducible first | exact HB.out | apply bA | apply bN | apply bD) | exact HB.out)))); (case aL => have := LMc30.out; omega); intro v408 w32 ho hb hg hat; rw [← Ny407.out] at ho; have n0_ := Aside0.mk (Kd.R_over' (by (with_reducible repeat (first | apply Kd.rA | apply Kd.rN | apply Kd.rD)); exact HO_7.out) (Kd.R_typed (by (with_reducible repeat (first | apply Kd.rA | apply Kd.rN | apply Kd.rD)); exact HO_9.out)) (by decide) hg); have n1_ := Aside0.mk (hb); have n2_ := Aside0.mk (ho); clear HO_7; clear HB; clear HO_9; have HO_7 := n0_; have HB := n1_; have HO409 := n2_; clear n0_ n1_ n2_; clear ho hb hg hat)); try go_wp2_with (first | ((with_reducible refine gate_builtin (b := .append) (xs := #[.tmp 67, .tmp 73]) rfl ?_); (try (refine gate_guard (by rfl) ?_; dsimp only)); at_builtin; refine Kd.R_append Kd.string (w0 := w) w.heap.size rfl (.tmp 67) (.tmp 73) 48 9 (.string ⟨#[]⟩) 16 rfl Try.underlying48 info9 rfl (by decide) (by omega) u9 x9_3 ((rd_T50 l0 x11_3).f0) [.string ((rd_T50 l0 x11_3).f0)] (fun _ => True) (fun _ => False) rfl rfl ?aP (fun _ hk => hk.elim) ?aF ?aO ?aB ?aS ?aL ?_; (case aP => exact rfl); (case aB => exact (by repeat (first | (with_reducible first | exact HB.out | apply bA | apply bN | apply bD) | exact HB.out))); (case aF => exact (fun _ _ => trivial)); (case aO => exact (by (with_reducible repeat (first | apply Kd.rA | apply Kd.rN | apply Kd.rD)); exact HO_9.out)); (case aS => exact (below_size (by repeat (first | (with_reducible first | exact HB.out | apply bA | apply bN | apply bD) | exact HB.out)))); (case aL => have := LMc30.out; omega); intro v408 w32 ho hb hg hat; rw [← Ny407.out] at ho; have n0_ := Aside0.mk (Kd.R_over' (by (with_reducible repeat (first | apply Kd.rA | apply Kd.rN | apply Kd.rD)); exact HO_7.out) (Kd.R_typed (by (with_reducible repeat (first | apply Kd.rA | apply Kd.rN | apply Kd.rD)); exact HO_9.out)) (by decide) hg); have n1_ := Aside0.mk (hb); have n2_ := Aside0.mk (ho); clear HO_7; clear HB; clear HO_9; have HO_7 := n0_; have HB := n1_; have HO409 := n2_; clear n0_ n1_ n2_; clear ho hb hg hat)))
       go_roundg k3
       case measure => have := HJ2.out; have := HJ11.out; have := HK3.out; omega
       case rel => exact ⟨(y407), (x10_3), (wrap64 (x11_3 + 1)), (by first | rfl | (simp; done) | (simp [*]; done)), (by first | rfl | (simp; done) | (simp [*]; done)), H', ⟨by have := HJ2.out; have := HJ11.out; have := HK3.out; omega⟩, ⟨by (with_reducible repeat (first | apply Kd.rA | apply Kd.rN | apply Kd.rD)); exact HO_7.out⟩, ⟨by (with_reducible repeat (first | apply Kd.rA | apply Kd.rN | apply Kd.rD)); exact HO409.out⟩, ⟨by repeat (first | (with_reducible first | exact HB.out | apply bA | apply bN | apply bD) | exact HB.out)⟩⟩
      rw [if_pos c21] at H
      have c21b0 : decide (x10_3 < (t394.length : Int)) = true := decide_eq_true c21
      clear c21
      by_cases c22 : 0 ≤ x10_3
      rotate_left
      ·rw [if_neg c22] at H
       exact absurd H (by simp)
      rw [if_pos c22] at H
      have c22b0 : decide (0 ≤ x10_3) = true := decide_eq_true c22
      clear c22
      by_cases c23 : (rd t394 x10_3) = x11_3
      ·rw [if_pos c23] at H
       have c23b0 : ((rd t394 x10_3) == x11_3) = true := beq_iff_eq.mpr c23
       have c23b1 : ((rd t394 x10_3) != x11_3) = false := bne_eq_false_iff_eq.mpr c23
       clear c23
       have H' := Aside0.mk H
       clear H
       obtain ⟨Ao24, co24, eo24⟩ := Kd.R_slice HO_7.out
       subst eo24
       have p401 : 0 ≤ (x10_3 : Int) := of_decide_eq_true (by first | (with_reducible assumption) | assumption)
       have q401 : x10_3 < (t394.length : Int) := of_decide_eq_true (by first | (with_reducible assumption) | assumption)
       obtain ⟨ad401, e401, hx401_0⟩ := Kd.at_int (Kd.R_reads' HO_7.out).2.2 x10_3 p401 q401
       cases e401
       replace p401 := eq_true p401
       replace q401 := eq_true q401
       go_wp2
       repeat (go_quiet (fail); try go_wp2)
       go_roundg k3
       case measure => have := HJ2.out; have := HJ11.out; have := HK3.out; omega
       case rel => exact ⟨(x9_3), (wrap64 (x10_3 + 1)), (wrap64 (x11_3 + 1)), (by first | rfl | (simp; done) | (simp [*]; done)), (by first | rfl | (simp; done) | (simp [*]; done)), H', ⟨by have := HJ2.out; have := HJ11.out; have := HK3.out; omega⟩, ⟨by (with_reducible repeat (first | apply Kd.rA | apply Kd.rN | apply Kd.rD)); exact HO_7.out⟩, ⟨by (with_reducible repeat (first | apply Kd.rA | apply Kd.rN | apply Kd.rD)); exact HO_9.out⟩, ⟨by repeat (first | (with_reducible first | exact HB.out | apply bA | apply bN | apply bD) | exact HB.out)⟩⟩
      rw [if_neg c23] at H
      have c23b0 : ((rd t394 x10_3) == x11_3) = false := beq_eq_false_iff_ne.mpr c23
      have c23b1 : ((rd t394 x10_3) != x11_3) = true := bne_iff_ne.mpr c23
      by_cases c25 : 0 ≤ x11_3
      rotate_left
      ·rw [if_neg c25] at H
       exact absurd H (by simp)
      rw [if_pos c25] at H
      have c25b0 : decide (0 ≤ x11_3) = true := decide_eq_true c25
      clear c25
      by_cases c26 : x9_3.length < 8796093022208
      rotate_left
      ·rw [if_neg c26] at H
       exact absurd H (by simp)
      rw [if_pos c26] at H
      have LMc26 := Aside0.mk c26
      clear c26
      obtain ⟨y403, hy403⟩ : ∃ y_ : List ByteArray, y_ = (x9_3 ++ [(rd_T50 l0 x11_3).f0]) := ⟨_, rfl⟩
      replace H : (salchowlaw25_CompareLoses.l0 k3 l0 l1 t394 y403 x10_3 (wrap64 (x11_3 + 1))) = some r := by first | (rw [hy403]; with_reducible exact H) | (have H2_ := (Option.bind_some _ _).symm.trans H; rw [hy403]; with_reducible exact H2_) | (have H2_ := (Option.bind_some _ _).symm.trans H; with_reducible exact H2_) | with_reducible exact H | (rw [hy403]; exact H) | exact H
      have Ny403 := Aside0.mk hy403
      clear hy403
      have H' := Aside0.mk H
      clear H
      obtain ⟨Ao27, co27, eo27⟩ := Kd.R_slice HO_7.out
      subst eo27
      have p401 : 0 ≤ (x10_3 : Int) := of_decide_eq_true (by first | (with_reducible assumption) | assumption)
      have q401 : x10_3 < (t394.length : Int) := of_decide_eq_true (by first | (with_reducible assumption) | assumption)
      obtain ⟨ad401, e401, hx401_0⟩ := Kd.at_int (Kd.R_reads' HO_7.out).2.2 x10_3 p401 q401
      cases e401
      replace p401 := eq_true p401
      replace q401 := eq_true q401
      have p402 : 0 ≤ (x11_3 : Int) := of_decide_eq_true (by first | (with_reducible assumption) | assumption)
      have q402 : x11_3 < (l0.length : Int) := of_decide_eq_true (by first | (with_reducible assumption) | assumption)
      obtain ⟨ad402, e402, hx402_0, hx402_1, hx402_2, hx402_3, hx402_4⟩ := at_T50 HR0.out x11_3 p402 q402
      cases e402
      replace hx402_0 := (HB.out.cell (World.block_lt_of_cell? w _ hx402_0)).trans hx402_0
      replace hx402_1 := (HB.out.cell (World.block_lt_of_cell? w _ hx402_1)).trans hx402_1
      replace hx402_2 := (HB.out.cell (World.block_lt_of_cell? w _ hx402_2)).trans hx402_2
      replace hx402_3 := (HB.out.cell (World.block_lt_of_cell? w _ hx402_3)).trans hx402_3
      replace hx402_4 := (HB.out.cell (World.block_lt_of_cell? w _ hx402_4)).trans hx402_4
      replace p402 := eq_true p402
      replace q402 := eq_true q402
      go_wp2_with (first | ((with_reducible refine gate_builtin (b := .append) (xs := #[.tmp 67, .tmp 73]) rfl ?_); (try (refine gate_guard (by rfl) ?_; dsimp only)); at_builtin; refine Kd.R_append Kd.string (w0 := w) w.heap.size rfl (.tmp 67) (.tmp 73) 48 9 (.string ⟨#[]⟩) 16 rfl Try.underlying48 info9 rfl (by decide) (by omega) u9 x9_3 ((rd_T50 l0 x11_3).f0) [.string ((rd_T50 l0 x11_3).f0)] (fun _ => True) (fun _ => False) rfl rfl ?aP (fun _ hk => hk.elim) ?aF ?aO ?aB ?aS ?aL ?_; (case aP => exact rfl); (case aB => exact (by repeat (first | (with_reducible first | exact HB.out | apply bA | apply bN | apply bD) | exact HB.out))); (case aF => exact (fun _ _ => trivial)); (case aO => exact (by (with_reducible repeat (first | apply Kd.rA | apply Kd.rN | apply Kd.rD)); exact HO_9.out)); (case aS => exact (below_size (by repeat (first | (with_reducible first | exact HB.out | apply bA | apply bN | apply bD) | exact HB.out)))); (case aL => have := LMc26.out; omega); intro v404 w28 ho hb hg hat; rw [← Ny403.out] at ho; have n0_ := Aside0.mk (Kd.R_over' (by (with_reducible repeat (first | apply Kd.rA | apply Kd.rN | apply Kd.rD)); exact HO_7.out) (Kd.R_typed (by (with_reducible repeat (first | apply Kd.rA | apply Kd.rN | apply Kd.rD)); exact HO_9.out)) (by decide) hg); have n1_ := Aside0.mk (hb); have n2_ := Aside0.mk (ho); clear HO_7; clear HB; clear HO_9; have HO_7 := n0_; have HB := n1_; have HO405 := n2_; clear n0_ n1_ n2_; clear ho hb hg hat))
      repeat (go_quiet (first | ((with_reducible refine gate_builtin (b := .append) (xs := #[.tmp 67, .tmp 73]) rfl ?_); (try (refine gate_guard (by rfl) ?_; dsimp only)); at_builtin; refine Kd.R_append Kd.string (w0 := w) w.heap.size rfl (.tmp 67) (.tmp 73) 48 9 (.string ⟨#[]⟩) 16 rfl Try.underlying48 info9 rfl (by decide) (by omega) u9 x9_3 ((rd_T50 l0 x11_3).f0) [.string ((rd_T50 l0 x11_3).f0)] (fun _ => True) (fun _ => False) rfl rfl ?aP (fun _ hk => hk.elim) ?aF ?aO ?aB ?aS ?aL ?_; (case aP => exact rfl); (case aB => exact (by repeat (first | (with_reducible first | exact HB.out | apply bA | apply bN | apply bD) | exact HB.out))); (case aF => exact (fun _ _ => trivial)); (case aO => exact (by (with_reducible repeat (first | apply Kd.rA | apply Kd.rN | apply Kd.rD)); exact HO_9.out)); (case aS => exact (below_size (by repeat (first | (with_reducible first | exact HB.out | apply bA | apply bN | apply bD) | exact HB.out)))); (case aL => have := LMc26.out; omega); intro v404 w28 ho hb hg hat; rw [← Ny403.out] at ho; have n0_ := Aside0.mk (Kd.R_over' (by (with_reducible repeat (first | apply Kd.rA | apply Kd.rN | apply Kd.rD)); exact HO_7.out) (Kd.R_typed (by (with_reducible repeat (first | apply Kd.rA | apply Kd.rN | apply Kd.rD)); exact HO_9.out)) (by decide) hg); have n1_ := Aside0.mk (hb); have n2_ := Aside0.mk (ho); clear HO_7; clear HB; clear HO_9; have HO_7 := n0_; have HB := n1_; have HO405 := n2_; clear n0_ n1_ n2_; clear ho hb hg hat)); try go_wp2_with (first | ((with_reducible refine gate_builtin (b := .append) (xs := #[.tmp 67, .tmp 73]) rfl ?_); (try (refine gate_guard (by rfl) ?_; dsimp only)); at_builtin; refine Kd.R_append Kd.string (w0 := w) w.heap.size rfl (.tmp 67) (.tmp 73) 48 9 (.string ⟨#[]⟩) 16 rfl Try.underlying48 info9 rfl (by decide) (by omega) u9 x9_3 ((rd_T50 l0 x11_3).f0) [.string ((rd_T50 l0 x11_3).f0)] (fun _ => True) (fun _ => False) rfl rfl ?aP (fun _ hk => hk.elim) ?aF ?aO ?aB ?aS ?aL ?_; (case aP => exact rfl); (case aB => exact (by repeat (first | (with_reducible first | exact HB.out | apply bA | apply bN | apply bD) | exact HB.out))); (case aF => exact (fun _ _ => trivial)); (case aO => exact (by (with_reducible repeat (first | apply Kd.rA | apply Kd.rN | apply Kd.rD)); exact HO_9.out)); (case aS => exact (below_size (by repeat (first | (with_reducible first | exact HB.out | apply bA | apply bN | apply bD) | exact HB.out)))); (case aL => have := LMc26.out; omega); intro v404 w28 ho hb hg hat; rw [← Ny403.out] at ho; have n0_ := Aside0.mk (Kd.R_over' (by (with_reducible repeat (first | apply Kd.rA | apply Kd.rN | apply Kd.rD)); exact HO_7.out) (Kd.R_typed (by (with_reducible repeat (first | apply Kd.rA | apply Kd.rN | apply Kd.rD)); exact HO_9.out)) (by decide) hg); have n1_ := Aside0.mk (hb); have n2_ := Aside0.mk (ho); clear HO_7; clear HB; clear HO_9; have HO_7 := n0_; have HB := n1_; have HO405 := n2_; clear n0_ n1_ n2_; clear ho hb hg hat)))
      go_roundg k3
      case measure => have := HJ2.out; have := HJ11.out; have := HK3.out; omega
      case rel => exact ⟨(y403), (x10_3), (wrap64 (x11_3 + 1)), (by first | rfl | (simp; done) | (simp [*]; done)), (by first | rfl | (simp; done) | (simp [*]; done)), H', ⟨by have := HJ2.out; have := HJ11.out; have := HK3.out; omega⟩, ⟨by (with_reducible repeat (first | apply Kd.rA | apply Kd.rN | apply Kd.rD)); exact HO_7.out⟩, ⟨by (with_reducible repeat (first | apply Kd.rA | apply Kd.rN | apply Kd.rD)); exact HO405.out⟩, ⟨by repeat (first | (with_reducible first | exact HB.out | apply bA | apply bN | apply bD) | exact HB.out)⟩⟩
     rw [if_neg c20] at H
     have c20b0 : decide (x11_3 < (l0.length : Int)) = false := decide_eq_false c20
     clear c20
     have H' := Aside0.mk H
     clear H
     go_wp2
     repeat (go_quiet (fail); try go_wp2)
     go_loopg [12, 13] k3 (fun kq v12 v13 w' => ∃ (x12_4 : Int) (x13_4 : Int), v12 = .int .i64 x12_4 ∧ v13 = .int .i64 x13_4 ∧ Aside0 (salchowlaw25_CompareLoses.l1 kq l1 t394 x9_3 x10_3 x12_4 x13_4 = some r) ∧ Aside0 (kq ≤ k3) ∧ Aside0 (Kd.R (Kd.int .i64) 3 w' w.heap.size (fun _ => True) v396 t394) ∧ Aside0 (Kd.R Kd.string 9 w' w.heap.size (fun _ => True) u9 x9_3) ∧ Aside0 (Below w.heap.size w w'))
     case atStart => exact ⟨(0), (0), (by first | rfl | (simp; done) | (simp [*]; done)), (by first | rfl | (simp; done) | (simp [*]; done)), H', ⟨Nat.le_refl _⟩, ⟨by (with_reducible repeat (first | apply Kd.rA | apply Kd.rN | apply Kd.rD)); exact HO_7.out⟩, ⟨by (with_reducible repeat (first | apply Kd.rA | apply Kd.rN | apply Kd.rD)); exact HO_9.out⟩, ⟨by repeat (first | (with_reducible first | exact HB.out | apply bA | apply bN | apply bD) | exact HB.out)⟩⟩
     case round =>
      clear H'
      try clear c1
      try clear c2
      try clear p2
      try clear c3
      try clear p4
      try clear q4
      try clear hx4
      try clear c5
      try clear c6
      try clear c6b0
      try clear c6b1
      try clear p6
      try clear c7
      try clear c16
      try clear c16b0
      try clear c16b1
      try clear c17
      try clear c20
      try clear c20b0
      try clear c21
      try clear c21b0
      try clear c22
      try clear c22b0
      try clear c23
      try clear c23b0
      try clear c23b1
      try clear c25
      try clear c25b0
      try clear c26
      try clear c29
      try clear c29b0
      try clear c30
      try clear hx401_0
      try clear hx402_0
      try clear hx402_1
      try clear hx402_2
      try clear hx402_3
      try clear hx402_4
      try clear hx406_0
      try clear hx406_1
      try clear hx406_2
      try clear hx406_3
      try clear hx406_4
      try clear p2
      try clear p401
      try clear p402
      try clear p406
      try clear q401
      try clear q402
      try clear q406
      obtain ⟨x12_4, x13_4, rfl, rfl, HA, HK4, HO_7, HO_9, HB⟩ := hrel
      cases gk with
      | zero => exact absurd HA.out (by simp [salchowlaw25_CompareLoses.l1])
      | succ k4 =>
       have H := HA.out
       clear HA
       simp only [salchowlaw25_CompareLoses.l1] at H
       have HC33 := Aside0.mk H
       clear H
       go_upto_region 17 with (fail)
       repeat (go_quiet (fail); go_upto_region 17 with (fail))
       go_cut [84] (fun v84 wc => ∃ (kq : Nat) (x84_32 : Bool), v84 = .bool x84_32 ∧ Aside0 (salchowlaw25_CompareLoses.j4 kq l1 t394 x9_3 x10_3 x12_4 x13_4 x84_32 = some r) ∧ Aside0 (kq ≤ k4) ∧ Aside0 (Kd.R (Kd.int .i64) 3 wc w.heap.size (fun _ => True) v396 t394) ∧ Aside0 (Kd.R Kd.string 9 wc w.heap.size (fun _ => True) u9 x9_3) ∧ Aside0 (Below w.heap.size w wc))
       case first =>
        have H := HC33.out
        clear HC33
        by_cases c34 : x13_4 < (l1.length : Int)
        rotate_left
        ·rw [if_neg c34] at H
         have c34b0 : decide (x13_4 < (l1.length : Int)) = false := decide_eq_false c34
         clear c34
         (first | rw [c34b0] | (simp only [i64_w, i32_w]; rw [c34b0]) | skip)
         have H' := Aside0.mk H
         clear H
         go_wp2
         repeat (go_quiet (fail); try go_wp2)
         go_meet
         case rel => exact ⟨_, (false), (by first | rfl | (simp; done) | (simp [*]; done)), H', ⟨by have := HJ2.out; have := HJ11.out; have := HK3.out; have := HK4.out; first | omega | exact Nat.le_refl _⟩, ⟨by (with_reducible repeat (first | apply Kd.rA | apply Kd.rN | apply Kd.rD)); exact HO_7.out⟩, ⟨by (with_reducible repeat (first | apply Kd.rA | apply Kd.rN | apply Kd.rD)); exact HO_9.out⟩, ⟨by repeat (first | (with_reducible first | exact HB.out | apply bA | apply bN | apply bD) | exact HB.out)⟩⟩
        rw [if_pos c34] at H
        have c34b0 : decide (x13_4 < (l1.length : Int)) = true := decide_eq_true c34
        clear c34
        (first | rw [c34b0] | (simp only [i64_w, i32_w]; rw [c34b0]) | skip)
        have H' := Aside0.mk H
        clear H
        obtain ⟨Ao35, co35, eo35⟩ := Kd.R_slice HO_9.out
        subst eo35
        go_wp2
        repeat (go_quiet (fail); try go_wp2)
        go_meet
        case rel => exact ⟨_, (decide (x12_4 < (x9_3.length : Int))), (by first | rfl | (simp; done) | (simp [*]; done)), H', ⟨by have := HJ2.out; have := HJ11.out; have := HK3.out; have := HK4.out; first | omega | exact Nat.le_refl _⟩, ⟨by (with_reducible repeat (first | apply Kd.rA | apply Kd.rN | apply Kd.rD)); exact HO_7.out⟩, ⟨by (with_reducible repeat (first | apply Kd.rA | apply Kd.rN | apply Kd.rD)); exact HO_9.out⟩, ⟨by repeat (first | (with_reducible first | exact HB.out | apply bA | apply bN | apply bD) | exact HB.out)⟩⟩
       clear HC33
       try clear c1
       try clear c2
       try clear p2
       try clear c3
       try clear p4
       try clear q4
       try clear hx4
       try clear c5
       try clear c6
       try clear c6b0
       try clear c6b1
       try clear p6
       try clear c7
       try clear c16
       try clear c16b0
       try clear c16b1
       try clear c17
       try clear c20
       try clear c20b0
       try clear c21
       try clear c21b0
       try clear c22
       try clear c22b0
       try clear c23
       try clear c23b0
       try clear c23b1
       try clear c25
       try clear c25b0
       try clear c26
       try clear c29
       try clear c29b0
       try clear c30
       try clear c34
       try clear c34b0
       try clear hx401_0
       try clear hx402_0
       try clear hx402_1
       try clear hx402_2
       try clear hx402_3
       try clear hx402_4
       try clear hx406_0
       try clear hx406_1
       try clear hx406_2
       try clear hx406_3
       try clear hx406_4
       try clear p2
       try clear p4
       try clear p401
       try clear p402
       try clear p406
       try clear p6
       try clear q4
       try clear q401
       try clear q402
       try clear q406
       obtain ⟨kq, x84_32, rfl, HA, HJ32, HO_7, HO_9, HB⟩ := hcut
       cases kq with
       | zero => exact absurd HA.out (by simp [salchowlaw25_CompareLoses.j4])
       | succ kj32 =>
        have H := HA.out
        clear HA
        simp only [salchowlaw25_CompareLoses.j4] at H
        by_cases c36 : x84_32 = true
        rotate_left
        ·replace c36 := Bool.eq_false_iff.mpr c36
         subst c36
         have H1 : ((salchowlaw25_awake.f kj32).bind fun t412 => (if t412 = true then (if x10_3 = (t394.length : Int) then (some (x12_4 == (x9_3.length : Int))) else (some false)) else (some false))) = some r := by rw [if_neg (show ¬ (false = true) by decide)] at H; exact H
         clear H
         have H := H1
         clear H1
         replace H := Option.bind_eq_some_iff.mp H
         obtain ⟨t412, A440, H⟩ := H
         replace H : (if t412 = true then (if x10_3 = (t394.length : Int) then (some (x12_4 == (x9_3.length : Int))) else (some false)) else (some false)) = some r := H
         have A44 := Aside0.mk A440
         clear A440
         by_cases c45 : t412 = true
         rotate_left
         ·replace c45 := Bool.eq_false_iff.mpr c45
          subst c45
          have H1 : (some false) = some r := by rw [if_neg (show ¬ (false = true) by decide)] at H; exact H
          clear H
          have H := H1
          clear H1
          obtain rfl := Option.some.inj H
          go_wp2_with (first | (go_at_call 12; (with_reducible refine (salchowlaw25_awake.calls kj32  false _ A44.out).mono ?_); rintro e w52 ⟨rfl, hb⟩; have n0_ := Aside0.mk (Kd.R_below (by (with_reducible repeat (first | apply Kd.rA | apply Kd.rN | apply Kd.rD)); exact HO_7.out) hb); have n1_ := Aside0.mk (Kd.R_below (by (with_reducible repeat (first | apply Kd.rA | apply Kd.rN | apply Kd.rD)); exact HO_9.out) hb); have n2_ := Aside0.mk (below_step (by repeat (first | (with_reducible first | exact HB.out | apply bA | apply bN | apply bD) | exact HB.out)) hb); clear HO_7; clear HO_9; clear HB; have HO_7 := n0_; have HO_9 := n1_; have HB := n2_; clear n0_ n1_ n2_; (try clear hb); (try clear hb2); (try clear hk); (try clear hi)))
          repeat (go_quiet (first | (go_at_call 12; (with_reducible refine (salchowlaw25_awake.calls kj32  false _ A44.out).mono ?_); rintro e w52 ⟨rfl, hb⟩; have n0_ := Aside0.mk (Kd.R_below (by (with_reducible repeat (first | apply Kd.rA | apply Kd.rN | apply Kd.rD)); exact HO_7.out) hb); have n1_ := Aside0.mk (Kd.R_below (by (with_reducible repeat (first | apply Kd.rA | apply Kd.rN | apply Kd.rD)); exact HO_9.out) hb); have n2_ := Aside0.mk (below_step (by repeat (first | (with_reducible first | exact HB.out | apply bA | apply bN | apply bD) | exact HB.out)) hb); clear HO_7; clear HO_9; clear HB; have HO_7 := n0_; have HO_9 := n1_; have HB := n2_; clear n0_ n1_ n2_; (try clear hb); (try clear hb2); (try clear hk); (try clear hi))); try go_wp2_with (first | (go_at_call 12; (with_reducible refine (salchowlaw25_awake.calls kj32  false _ A44.out).mono ?_); rintro e w52 ⟨rfl, hb⟩; have n0_ := Aside0.mk (Kd.R_below (by (with_reducible repeat (first | apply Kd.rA | apply Kd.rN | apply Kd.rD)); exact HO_7.out) hb); have n1_ := Aside0.mk (Kd.R_below (by (with_reducible repeat (first | apply Kd.rA | apply Kd.rN | apply Kd.rD)); exact HO_9.out) hb); have n2_ := Aside0.mk (below_step (by repeat (first | (with_reducible first | exact HB.out | apply bA | apply bN | apply bD) | exact HB.out)) hb); clear HO_7; clear HO_9; clear HB; have HO_7 := n0_; have HO_9 := n1_; have HB := n2_; clear n0_ n1_ n2_; (try clear hb); (try clear hb2); (try clear hk); (try clear hi))))
          go_ret
          exact ⟨by first | rfl | (simp [errW_none, errW_some] <;> rfl) | (simp [*, errW_none, errW_some] <;> rfl), by repeat (first | (with_reducible first | exact HB.out | apply bA | apply bN | apply bD) | exact HB.out)⟩

         subst c45
         have H1 : (if x10_3 = (t394.length : Int) then (some (x12_4 == (x9_3.length : Int))) else (some false)) = some r := by rw [if_pos rfl] at H; exact H
         clear H
         have H := H1
         clear H1
         by_cases c46 : x10_3 = (t394.length : Int)
         rotate_left
         ·rw [if_neg c46] at H
          have c46b0 : (x10_3 == (t394.length : Int)) = false := beq_eq_false_iff_ne.mpr c46
          have c46b1 : (x10_3 != (t394.length : Int)) = true := bne_iff_ne.mpr c46
          obtain rfl := Option.some.inj H
          go_wp2_with (first | (go_at_call 12; (with_reducible refine (salchowlaw25_awake.calls kj32  true _ A44.out).mono ?_); rintro e w50 ⟨rfl, hb⟩; have n0_ := Aside0.mk (Kd.R_below (by (with_reducible repeat (first | apply Kd.rA | apply Kd.rN | apply Kd.rD)); exact HO_7.out) hb); have n1_ := Aside0.mk (Kd.R_below (by (with_reducible repeat (first | apply Kd.rA | apply Kd.rN | apply Kd.rD)); exact HO_9.out) hb); have n2_ := Aside0.mk (below_step (by repeat (first | (with_reducible first | exact HB.out | apply bA | apply bN | apply bD) | exact HB.out)) hb); clear HO_7; clear HO_9; clear HB; have HO_7 := n0_; have HO_9 := n1_; have HB := n2_; clear n0_ n1_ n2_; (try clear hb); (try clear hb2); (try clear hk); (try clear hi); obtain ⟨Ao51, co51, eo51⟩ := Kd.R_slice HO_7.out; subst eo51))
          repeat (go_quiet (first | (go_at_call 12; (with_reducible refine (salchowlaw25_awake.calls kj32  true _ A44.out).mono ?_); rintro e w50 ⟨rfl, hb⟩; have n0_ := Aside0.mk (Kd.R_below (by (with_reducible repeat (first | apply Kd.rA | apply Kd.rN | apply Kd.rD)); exact HO_7.out) hb); have n1_ := Aside0.mk (Kd.R_below (by (with_reducible repeat (first | apply Kd.rA | apply Kd.rN | apply Kd.rD)); exact HO_9.out) hb); have n2_ := Aside0.mk (below_step (by repeat (first | (with_reducible first | exact HB.out | apply bA | apply bN | apply bD) | exact HB.out)) hb); clear HO_7; clear HO_9; clear HB; have HO_7 := n0_; have HO_9 := n1_; have HB := n2_; clear n0_ n1_ n2_; (try clear hb); (try clear hb2); (try clear hk); (try clear hi); obtain ⟨Ao51, co51, eo51⟩ := Kd.R_slice HO_7.out; subst eo51)); try go_wp2_with (first | (go_at_call 12; (with_reducible refine (salchowlaw25_awake.calls kj32  true _ A44.out).mono ?_); rintro e w50 ⟨rfl, hb⟩; have n0_ := Aside0.mk (Kd.R_below (by (with_reducible repeat (first | apply Kd.rA | apply Kd.rN | apply Kd.rD)); exact HO_7.out) hb); have n1_ := Aside0.mk (Kd.R_below (by (with_reducible repeat (first | apply Kd.rA | apply Kd.rN | apply Kd.rD)); exact HO_9.out) hb); have n2_ := Aside0.mk (below_step (by repeat (first | (with_reducible first | exact HB.out | apply bA | apply bN | apply bD) | exact HB.out)) hb); clear HO_7; clear HO_9; clear HB; have HO_7 := n0_; have HO_9 := n1_; have HB := n2_; clear n0_ n1_ n2_; (try clear hb); (try clear hb2); (try clear hk); (try clear hi); obtain ⟨Ao51, co51, eo51⟩ := Kd.R_slice HO_7.out; subst eo51)))
          go_ret
          exact ⟨by first | rfl | (simp [errW_none, errW_some] <;> rfl) | (simp [*, errW_none, errW_some] <;> rfl), by repeat (first | (with_reducible first | exact HB.out | apply bA | apply bN | apply bD) | exact HB.out)⟩
         rw [if_pos c46] at H
         have c46b0 : (x10_3 == (t394.length : Int)) = true := beq_iff_eq.mpr c46
         have c46b1 : (x10_3 != (t394.length : Int)) = false := bne_eq_false_iff_eq.mpr c46
         clear c46
         obtain rfl := Option.some.inj H
         go_wp2_with (first | (go_at_call 12; (with_reducible refine (salchowlaw25_awake.calls kj32  true _ A44.out).mono ?_); rintro e w47 ⟨rfl, hb⟩; have n0_ := Aside0.mk (Kd.R_below (by (with_reducible repeat (first | apply Kd.rA | apply Kd.rN | apply Kd.rD)); exact HO_7.out) hb); have n1_ := Aside0.mk (Kd.R_below (by (with_reducible repeat (first | apply Kd.rA | apply Kd.rN | apply Kd.rD)); exact HO_9.out) hb); have n2_ := Aside0.mk (below_step (by repeat (first | (with_reducible first | exact HB.out | apply bA | apply bN | apply bD) | exact HB.out)) hb); clear HO_7; clear HO_9; clear HB; have HO_7 := n0_; have HO_9 := n1_; have HB := n2_; clear n0_ n1_ n2_; (try clear hb); (try clear hb2); (try clear hk); (try clear hi); obtain ⟨Ao48, co48, eo48⟩ := Kd.R_slice HO_7.out; subst eo48; obtain ⟨Ao49, co49, eo49⟩ := Kd.R_slice HO_9.out; subst eo49))
         repeat (go_quiet (first | (go_at_call 12; (with_reducible refine (salchowlaw25_awake.calls kj32  true _ A44.out).mono ?_); rintro e w47 ⟨rfl, hb⟩; have n0_ := Aside0.mk (Kd.R_below (by (with_reducible repeat (first | apply Kd.rA | apply Kd.rN | apply Kd.rD)); exact HO_7.out) hb); have n1_ := Aside0.mk (Kd.R_below (by (with_reducible repeat (first | apply Kd.rA | apply Kd.rN | apply Kd.rD)); exact HO_9.out) hb); have n2_ := Aside0.mk (below_step (by repeat (first | (with_reducible first | exact HB.out | apply bA | apply bN | apply bD) | exact HB.out)) hb); clear HO_7; clear HO_9; clear HB; have HO_7 := n0_; have HO_9 := n1_; have HB := n2_; clear n0_ n1_ n2_; (try clear hb); (try clear hb2); (try clear hk); (try clear hi); obtain ⟨Ao48, co48, eo48⟩ := Kd.R_slice HO_7.out; subst eo48; obtain ⟨Ao49, co49, eo49⟩ := Kd.R_slice HO_9.out; subst eo49)); try go_wp2_with (first | (go_at_call 12; (with_reducible refine (salchowlaw25_awake.calls kj32  true _ A44.out).mono ?_); rintro e w47 ⟨rfl, hb⟩; have n0_ := Aside0.mk (Kd.R_below (by (with_reducible repeat (first | apply Kd.rA | apply Kd.rN | apply Kd.rD)); exact HO_7.out) hb); have n1_ := Aside0.mk (Kd.R_below (by (with_reducible repeat (first | apply Kd.rA | apply Kd.rN | apply Kd.rD)); exact HO_9.out) hb); have n2_ := Aside0.mk (below_step (by repeat (first | (with_reducible first | exact HB.out | apply bA | apply bN | apply bD) | exact HB.out)) hb); clear HO_7; clear HO_9; clear HB; have HO_7 := n0_; have HO_9 := n1_; have HB := n2_; clear n0_ n1_ n2_; (try clear hb); (try clear hb2); (try clear hk); (try clear hi); obtain ⟨Ao48, co48, eo48⟩ := Kd.R_slice HO_7.out; subst eo48; obtain ⟨Ao49, co49, eo49⟩ := Kd.R_slice HO_9.out; subst eo49)))
         go_ret
         exact ⟨by first | rfl | (simp [errW_none, errW_some] <;> rfl) | (simp [*, errW_none, errW_some] <;> rfl), by repeat (first | (with_reducible first | exact HB.out | apply bA | apply bN | apply bD) | exact HB.out)⟩
        subst c36
        have H1 : (if 0 ≤ x13_4 then (if x13_4 < (l1.length : Int) then (if 0 ≤ x12_4 then (if x12_4 < (x9_3.length : Int) then (if ((rd_T50 l1 x13_4).f0).toList = (rdOf ByteArray.empty x9_3 x12_4).toList then (salchowlaw25_CompareLoses.l1 kj32 l1 t394 x9_3 x10_3 (wrap64 (x12_4 + 1)) (wrap64 (x13_4 + 1))) else (salchowlaw25_CompareLoses.l1 kj32 l1 t394 x9_3 x10_3 x12_4 (wrap64 (x13_4 + 1)))) else (none)) else (none)) else (none)) else (none)) = some r := by rw [if_pos rfl] at H; exact H
        clear H
        have H := H1
        clear H1
        by_cases c37 : 0 ≤ x13_4
        rotate_left
        ·rw [if_neg c37] at H
         exact absurd H (by simp)
        rw [if_pos c37] at H
        have c37b0 : decide (0 ≤ x13_4) = true := decide_eq_true c37
        clear c37
        by_cases c38 : x13_4 < (l1.length : Int)
        rotate_left
        ·rw [if_neg c38] at H
         exact absurd H (by simp)
        rw [if_pos c38] at H
        have c38b0 : decide (x13_4 < (l1.length : Int)) = true := decide_eq_true c38
        clear c38
        by_cases c39 : 0 ≤ x12_4
        rotate_left
        ·rw [if_neg c39] at H
         exact absurd H (by simp)
        rw [if_pos c39] at H
        have c39b0 : decide (0 ≤ x12_4) = true := decide_eq_true c39
        clear c39
        by_cases c40 : x12_4 < (x9_3.length : Int)
        rotate_left
        ·rw [if_neg c40] at H
         exact absurd H (by simp)
        rw [if_pos c40] at H
        have c40b0 : decide (x12_4 < (x9_3.length : Int)) = true := decide_eq_true c40
        clear c40
        by_cases c41 : ((rd_T50 l1 x13_4).f0).toList = (rdOf ByteArray.empty x9_3 x12_4).toList
        rotate_left
        ·rw [if_neg c41] at H
         have c41b0 : (((rd_T50 l1 x13_4).f0).toList == (rdOf ByteArray.empty x9_3 x12_4).toList) = false := beq_eq_false_iff_ne.mpr c41
         have c41b1 : (((rd_T50 l1 x13_4).f0).toList != (rdOf ByteArray.empty x9_3 x12_4).toList) = true := bne_iff_ne.mpr c41
         have H' := Aside0.mk H
         clear H
         have p410 : 0 ≤ (x13_4 : Int) := of_decide_eq_true (by first | (with_reducible assumption) | assumption)
         have q410 : x13_4 < (l1.length : Int) := of_decide_eq_true (by first | (with_reducible assumption) | assumption)
         obtain ⟨ad410, e410, hx410_0, hx410_1, hx410_2, hx410_3, hx410_4⟩ := at_T50 HR1.out x13_4 p410 q410
         cases e410
         replace hx410_0 := (HB.out.cell (World.block_lt_of_cell? w _ hx410_0)).trans hx410_0
         replace hx410_1 := (HB.out.cell (World.block_lt_of_cell? w _ hx410_1)).trans hx410_1
         replace hx410_2 := (HB.out.cell (World.block_lt_of_cell? w _ hx410_2)).trans hx410_2
         replace hx410_3 := (HB.out.cell (World.block_lt_of_cell? w _ hx410_3)).trans hx410_3
         replace hx410_4 := (HB.out.cell (World.block_lt_of_cell? w _ hx410_4)).trans hx410_4
         replace p410 := eq_true p410
         replace q410 := eq_true q410
         obtain ⟨Ao43, co43, eo43⟩ := Kd.R_slice HO_9.out
         subst eo43
         have p411 : 0 ≤ (x12_4 : Int) := of_decide_eq_true (by first | (with_reducible assumption) | assumption)
         have q411 : x12_4 < (x9_3.length : Int) := of_decide_eq_true (by first | (with_reducible assumption) | assumption)
         obtain ⟨ad411, e411, hx411_0⟩ := Kd.at_string (Kd.R_reads' HO_9.out).2.2 x12_4 p411 q411
         cases e411
         replace p411 := eq_true p411
         replace q411 := eq_true q411
         go_wp2
         repeat (go_quiet (fail); try go_wp2)
         go_roundg kj32
         case measure => have := HJ2.out; have := HJ11.out; have := HK3.out; have := HK4.out; have := HJ32.out; omega
         case rel => exact ⟨(x12_4), (wrap64 (x13_4 + 1)), (by first | rfl | (simp; done) | (simp [*]; done)), (by first | rfl | (simp; done) | (simp [*]; done)), H', ⟨by have := HJ2.out; have := HJ11.out; have := HK3.out; have := HK4.out; have := HJ32.out; omega⟩, ⟨by (with_reducible repeat (first | apply Kd.rA | apply Kd.rN | apply Kd.rD)); exact HO_7.out⟩, ⟨by (with_reducible repeat (first | apply Kd.rA | apply Kd.rN | apply Kd.rD)); exact HO_9.out⟩, ⟨by repeat (first | (with_reducible first | exact HB.out | apply bA | apply bN | apply bD) | exact HB.out)⟩⟩
        rw [if_pos c41] at H
        have c41b0 : (((rd_T50 l1 x13_4).f0).toList == (rdOf ByteArray.empty x9_3 x12_4).toList) = true := beq_iff_eq.mpr c41
        have c41b1 : (((rd_T50 l1 x13_4).f0).toList != (rdOf ByteArray.empty x9_3 x12_4).toList) = false := bne_eq_false_iff_eq.mpr c41
        clear c41
        have H' := Aside0.mk H
        clear H
        have p410 : 0 ≤ (x13_4 : Int) := of_decide_eq_true (by first | (with_reducible assumption) | assumption)
        have q410 : x13_4 < (l1.length : Int) := of_decide_eq_true (by first | (with_reducible assumption) | assumption)
        obtain ⟨ad410, e410, hx410_0, hx410_1, hx410_2, hx410_3, hx410_4⟩ := at_T50 HR1.out x13_4 p410 q410
        cases e410
        replace hx410_0 := (HB.out.cell (World.block_lt_of_cell? w _ hx410_0)).trans hx410_0
        replace hx410_1 := (HB.out.cell (World.block_lt_of_cell? w _ hx410_1)).trans hx410_1
        replace hx410_2 := (HB.out.cell (World.block_lt_of_cell? w _ hx410_2)).trans hx410_2
        replace hx410_3 := (HB.out.cell (World.block_lt_of_cell? w _ hx410_3)).trans hx410_3
        replace hx410_4 := (HB.out.cell (World.block_lt_of_cell? w _ hx410_4)).trans hx410_4
        replace p410 := eq_true p410
        replace q410 := eq_true q410
        obtain ⟨Ao42, co42, eo42⟩ := Kd.R_slice HO_9.out
        subst eo42
        have p411 : 0 ≤ (x12_4 : Int) := of_decide_eq_true (by first | (with_reducible assumption) | assumption)
        have q411 : x12_4 < (x9_3.length : Int) := of_decide_eq_true (by first | (with_reducible assumption) | assumption)
        obtain ⟨ad411, e411, hx411_0⟩ := Kd.at_string (Kd.R_reads' HO_9.out).2.2 x12_4 p411 q411
        cases e411
        replace p411 := eq_true p411
        replace q411 := eq_true q411
        go_wp2
        repeat (go_quiet (fail); try go_wp2)
        go_roundg kj32
        case measure => have := HJ2.out; have := HJ11.out; have := HK3.out; have := HK4.out; have := HJ32.out; omega
        case rel => exact ⟨(wrap64 (x12_4 + 1)), (wrap64 (x13_4 + 1)), (by first | rfl | (simp; done) | (simp [*]; done)), (by first | rfl | (simp; done) | (simp [*]; done)), H', ⟨by have := HJ2.out; have := HJ11.out; have := HK3.out; have := HK4.out; have := HJ32.out; omega⟩, ⟨by (with_reducible repeat (first | apply Kd.rA | apply Kd.rN | apply Kd.rD)); exact HO_7.out⟩, ⟨by (with_reducible repeat (first | apply Kd.rA | apply Kd.rN | apply Kd.rD)); exact HO_9.out⟩, ⟨by repeat (first | (with_reducible first | exact HB.out | apply bA | apply bN | apply bD) | exact HB.out)⟩⟩
end Go.Proofs.Ytjmbkbnbepmhjaa.P
