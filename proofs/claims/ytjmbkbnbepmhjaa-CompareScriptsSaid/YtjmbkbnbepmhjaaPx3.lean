-- out of a program (drive.sh), by way of the translation's print
import Derived.Test.YtjmbkbnbepmhjaaPx0
namespace Go.Proofs.Ytjmbkbnbepmhjaa.P
open Go.RowKit Go.Proofs.YtjmbkbnbepmhjaaW.PrintWords Go.Proofs.YtjmbkbnbepmhjaaW.PrintLast Go.Proofs.YtjmbkbnbepmhjaaW.PrintMore
attribute [local go_sem] max2_int min2_int max_two min_two max_three min_three max_four min_four   -- for this text's walks alone
set_option linter.unusedVariables false
set_option linter.unusedSimpArgs false

/-! ### salchowref25_Small: function 11 -/
mutual
def salchowref25_Small.j0 : Nat → List (S50) → List (S50) → List (S58) → Bool → Option (Bool)
 | 0, _, _, _, _ => none
 | k + 1, x0, x1, x2, x22 => if x22 = true then (some false) else (salchowref25_Small.l0 k x0 x1 x2 0)
def salchowref25_Small.l0 : Nat → List (S50) → List (S50) → List (S58) → Int → Option (Bool)
 | 0, _, _, _, _ => none
 | k + 1, x0, x1, x2, x7 => if x7 < (x0.length : Int) then (if 0 ≤ x7 then (if (((rd_T50 x0 x7).f0).size : Int) > 40 then (some false) else (salchowref25_Small.l0 k x0 x1 x2 (wrap64 (x7 + 1)))) else (none)) else (salchowref25_Small.l1 k x1 x2 0)
def salchowref25_Small.l1 : Nat → List (S50) → List (S58) → Int → Option (Bool)
 | 0, _, _, _ => none
 | k + 1, x1, x2, x8 => if x8 < (x1.length : Int) then (if 0 ≤ x8 then (if (((rd_T50 x1 x8).f0).size : Int) > 40 then (some false) else (salchowref25_Small.l1 k x1 x2 (wrap64 (x8 + 1)))) else (none)) else (salchowref25_Small.l2 k x2 0)
def salchowref25_Small.l2 : Nat → List (S58) → Int → Option (Bool)
 | 0, _, _ => none
 | k + 1, x2, x9 => if x9 < (x2.length : Int) then (if 0 ≤ x9 then (if (((rd_T58 x2 x9).f1.f0).size : Int) > 40 then (some false) else (salchowref25_Small.l2 k x2 (wrap64 (x9 + 1)))) else (none)) else (some true)
end
def salchowref25_Small.f (k : Nat) (l0 : List (S50)) (l1 : List (S50)) (l2 : List (S58)) : Option (Bool) := if (l0.length : Int) > 40 then (salchowref25_Small.j0 k l0 l1 l2 true) else (if (l1.length : Int) > 40 then (salchowref25_Small.j0 k l0 l1 l2 true) else (salchowref25_Small.j0 k l0 l1 l2 (decide ((l2.length : Int) > 80))))
theorem salchowref25_Small.mono_l : ∀ k, (∀ y0 y1 y2 y3, LeO (salchowref25_Small.j0 k y0 y1 y2 y3) (salchowref25_Small.j0 (k + 1) y0 y1 y2 y3)) ∧ (∀ y0 y1 y2 y3, LeO (salchowref25_Small.l0 k y0 y1 y2 y3) (salchowref25_Small.l0 (k + 1) y0 y1 y2 y3)) ∧ (∀ y0 y1 y2, LeO (salchowref25_Small.l1 k y0 y1 y2) (salchowref25_Small.l1 (k + 1) y0 y1 y2)) ∧ (∀ y0 y1, LeO (salchowref25_Small.l2 k y0 y1) (salchowref25_Small.l2 (k + 1) y0 y1))
 | 0 => ⟨fun _ _ _ _ r h => by simp [salchowref25_Small.j0] at h, fun _ _ _ _ r h => by simp [salchowref25_Small.l0] at h, fun _ _ _ r h => by simp [salchowref25_Small.l1] at h, fun _ _ r h => by simp [salchowref25_Small.l2] at h⟩
 | k + 1 => by
  obtain ⟨ih0, ih1, ih2, ih3⟩ := salchowref25_Small.mono_l k
  refine ⟨?_, ?_, ?_, ?_⟩
  ·intro y0 y1 y2 y3
   unfold salchowref25_Small.j0
   repeat' first
   | (with_reducible exact ih0 _ _ _ _)
   | (with_reducible exact ih1 _ _ _ _)
   | (with_reducible exact ih2 _ _ _)
   | (with_reducible exact ih3 _ _)
   | (with_reducible exact LeO.refl _)
   | (with_reducible exact LeO.none _)
   | (with_reducible refine LeO.ite ?_ ?_)
   | (with_reducible refine LeO.bind ?_ (fun _ => ?_))
   | exact ih0 _ _ _ _
   | exact ih1 _ _ _ _
   | exact ih2 _ _ _
   | exact ih3 _ _
   | exact LeO.none _
   | refine LeO.ite ?_ ?_
   | refine LeO.bind ?_ (fun _ => ?_)
  ·intro y0 y1 y2 y3
   unfold salchowref25_Small.l0
   repeat' first
   | (with_reducible exact ih0 _ _ _ _)
   | (with_reducible exact ih1 _ _ _ _)
   | (with_reducible exact ih2 _ _ _)
   | (with_reducible exact ih3 _ _)
   | (with_reducible exact LeO.refl _)
   | (with_reducible exact LeO.none _)
   | (with_reducible refine LeO.ite ?_ ?_)
   | (with_reducible refine LeO.bind ?_ (fun _ => ?_))
   | exact ih0 _ _ _ _
   | exact ih1 _ _ _ _
   | exact ih2 _ _ _
   | exact ih3 _ _
   | exact LeO.none _
   | refine LeO.ite ?_ ?_
   | refine LeO.bind ?_ (fun _ => ?_)
  ·intro y0 y1 y2
   unfold salchowref25_Small.l1
   repeat' first
   | (with_reducible exact ih0 _ _ _ _)
   | (with_reducible exact ih1 _ _ _ _)
   | (with_reducible exact ih2 _ _ _)
   | (with_reducible exact ih3 _ _)
   | (with_reducible exact LeO.refl _)
   | (with_reducible exact LeO.none _)
   | (with_reducible refine LeO.ite ?_ ?_)
   | (with_reducible refine LeO.bind ?_ (fun _ => ?_))
   | exact ih0 _ _ _ _
   | exact ih1 _ _ _ _
   | exact ih2 _ _ _
   | exact ih3 _ _
   | exact LeO.none _
   | refine LeO.ite ?_ ?_
   | refine LeO.bind ?_ (fun _ => ?_)
  ·intro y0 y1
   unfold salchowref25_Small.l2
   repeat' first
   | (with_reducible exact ih0 _ _ _ _)
   | (with_reducible exact ih1 _ _ _ _)
   | (with_reducible exact ih2 _ _ _)
   | (with_reducible exact ih3 _ _)
   | (with_reducible exact LeO.refl _)
   | (with_reducible exact LeO.none _)
   | (with_reducible refine LeO.ite ?_ ?_)
   | (with_reducible refine LeO.bind ?_ (fun _ => ?_))
   | exact ih0 _ _ _ _
   | exact ih1 _ _ _ _
   | exact ih2 _ _ _
   | exact ih3 _ _
   | exact LeO.none _
   | refine LeO.ite ?_ ?_
   | refine LeO.bind ?_ (fun _ => ?_)
theorem salchowref25_Small.mono : ∀ a0 a1 a2 k, LeO (salchowref25_Small.f k a0 a1 a2) (salchowref25_Small.f (k + 1) a0 a1 a2) := by
 intro a0 a1 a2 k
 obtain ⟨ih0, ih1, ih2, ih3⟩ := salchowref25_Small.mono_l k
 unfold salchowref25_Small.f
 repeat' first
   | (with_reducible exact ih0 _ _ _ _)
   | (with_reducible exact ih1 _ _ _ _)
   | (with_reducible exact ih2 _ _ _)
   | (with_reducible exact ih3 _ _)
   | (with_reducible exact LeO.refl _)
   | (with_reducible exact LeO.none _)
   | (with_reducible refine LeO.ite ?_ ?_)
   | (with_reducible refine LeO.bind ?_ (fun _ => ?_))
   | exact ih0 _ _ _ _
   | exact ih1 _ _ _ _
   | exact ih2 _ _ _
   | exact ih3 _ _
   | exact LeO.none _
   | refine LeO.ite ?_ ?_
   | refine LeO.bind ?_ (fun _ => ?_)
set_option maxHeartbeats 8000000 in
set_option maxRecDepth 100000 in
theorem salchowref25_Small.calls (k : Nat) (A0 : Option Addr) (c0 : Nat) (l0 : List (S50)) (A1 : Option Addr) (c1 : Nat) (l1 : List (S50)) (A2 : Option Addr) (c2 : Nat) (l2 : List (S58)) (r : Bool) (w : World) (hr0 : Kd.C k50 w A0 l0.length l0) (hc0 : l0.length ≤ c0) (hr1 : Kd.C k50 w A1 l1.length l1) (hc1 : l1.length ≤ c1) (hr2 : Kd.C k58 w A2 l2.length l2) (hc2 : l2.length ≤ c2) (h : salchowref25_Small.f k l0 l1 l2 = some r) :
  Calls Try.prog 11 #[.slice A0 l0.length c0, .slice A1 l1.length c1, .slice A2 l2.length c2] w fun e w' => e = .returned (.bool r) ∧ Drawn0 w w' := by
 have HR0 := aS hr0
 have HC0 := aS hc0
 clear hr0 hc0
 have HR1 := aS hr1
 have HC1 := aS hc1
 clear hr1 hc1
 have HR2 := aS hr2
 have HC2 := aS hc2
 clear hr2 hc2
 have H : (if (l0.length : Int) > 40 then (salchowref25_Small.j0 k l0 l1 l2 true) else (if (l1.length : Int) > 40 then (salchowref25_Small.j0 k l0 l1 l2 true) else (salchowref25_Small.j0 k l0 l1 l2 (decide ((l2.length : Int) > 80))))) = some r := h
 clear h
 have HC4 := aS H
 clear H
 go_enter Try.func11, Try.ntmps11
 go_upto_region 1 with (fail)
 go_cut [22] (fun v22 wc => ∃ (kq : Nat) (x22_3 : Bool), v22 = .bool x22_3 ∧ Aside0 (salchowref25_Small.j0 kq l0 l1 l2 x22_3 = some r) ∧ Aside0 (kq ≤ k) ∧ Drawn0 w wc)
 case first =>
  have H := HC4.out
  clear HC4
  by_cases c5 : (l0.length : Int) > 40
  ·rw [if_pos c5] at H
   have c5b0 : decide (40 < (l0.length : Int)) = true := decide_eq_true c5
   have c5b1 : decide (40 < l0.length) = true := decide_eq_true (by omega)
   clear c5
   (first | rw [c5b0] | (simp only [i64_w, i32_w]; rw [c5b0]) | skip)
   have H' := aS H
   clear H
   go_wp2
   go_meet
   case rel => exact ⟨_, (true), (by first | rfl | (simp; done) | (simp [*]; done)), H', ⟨by first | omega | exact Nat.le_refl _⟩, by repeat (first | exact Drawn0.refl _ | apply Drawn0.step)⟩
  rw [if_neg c5] at H
  have c5b0 : decide (40 < (l0.length : Int)) = false := decide_eq_false c5
  have c5b1 : decide (40 < l0.length) = false := decide_eq_false (by omega)
  clear c5
  (first | rw [c5b0] | (simp only [i64_w, i32_w]; rw [c5b0]) | skip)
  by_cases c6 : (l1.length : Int) > 40
  rotate_left
  ·rw [if_neg c6] at H
   have c6b0 : decide (40 < (l1.length : Int)) = false := decide_eq_false c6
   have c6b1 : decide (40 < l1.length) = false := decide_eq_false (by omega)
   clear c6
   have H' := aS H
   clear H
   go_wp2
   go_meet
   case rel => exact ⟨_, (decide ((l2.length : Int) > 80)), (by first | rfl | (simp; done) | (simp [*]; done)), H', ⟨by first | omega | exact Nat.le_refl _⟩, by repeat (first | exact Drawn0.refl _ | apply Drawn0.step)⟩
  rw [if_pos c6] at H
  have c6b0 : decide (40 < (l1.length : Int)) = true := decide_eq_true c6
  have c6b1 : decide (40 < l1.length) = true := decide_eq_true (by omega)
  clear c6
  have H' := aS H
  clear H
  go_wp2
  go_meet
  case rel => exact ⟨_, (true), (by first | rfl | (simp; done) | (simp [*]; done)), H', ⟨by first | omega | exact Nat.le_refl _⟩, by repeat (first | exact Drawn0.refl _ | apply Drawn0.step)⟩
 clear HC4
 try clear c1
 try clear c2
 try clear p2
 try clear c5
 try clear c5b0
 try clear c5b1
 try clear c6
 try clear c6b0
 try clear c6b1
 obtain ⟨kq, x22_3, rfl, HA, HJ3, ⟨mc3, rfl⟩⟩ := hcut
 cases kq with
 | zero => exact absurd HA.out (by simp [salchowref25_Small.j0])
 | succ kj3 =>
  have H := HA.out
  clear HA
  simp only [salchowref25_Small.j0] at H
  by_cases c7 : x22_3 = true
  ·subst c7
   have H1 : (some false) = some r := by rw [if_pos rfl] at H; exact H
   clear H
   have H := H1
   clear H1
   obtain rfl := Option.some.inj H
   go_wp2
   go_ret
   exact ⟨by first | rfl | (simp; done) | (simp [*]; done), by repeat (first | exact Drawn0.refl _ | apply Drawn0.step)⟩
  replace c7 := Bool.eq_false_iff.mpr c7
  subst c7
  have H1 : (salchowref25_Small.l0 kj3 l0 l1 l2 0) = some r := by rw [if_neg (show ¬ (false = true) by decide)] at H; exact H
  clear H
  have H := H1
  clear H1
  have H' := aS H
  clear H
  go_wp2
  go_loopg [7] kj3 (fun kq v7 w' => ∃ (x7_2 : Int), v7 = .int .i64 x7_2 ∧ Aside0 (salchowref25_Small.l0 kq l0 l1 l2 x7_2 = some r) ∧ Aside0 (kq ≤ kj3) ∧ Drawn0 w w')
  case atStart => exact ⟨(0), (by first | rfl | (simp; done) | (simp [*]; done)), H', ⟨Nat.le_refl _⟩, by repeat (first | exact Drawn0.refl _ | apply Drawn0.step)⟩
  case round =>
   clear H'
   try clear c1
   try clear c2
   try clear p2
   try clear c3
   try clear c5
   try clear c5b0
   try clear c5b1
   try clear c6
   try clear c6b0
   try clear c6b1
   try clear c7
   try clear p2
   obtain ⟨x7_2, rfl, HA, HK2, ⟨m2, rfl⟩⟩ := hrel
   cases gk with
   | zero => exact absurd HA.out (by simp [salchowref25_Small.l0])
   | succ k2 =>
    have H := HA.out
    clear HA
    simp only [salchowref25_Small.l0] at H
    by_cases c8 : x7_2 < (l0.length : Int)
    ·rw [if_pos c8] at H
     have c8b0 : decide (x7_2 < (l0.length : Int)) = true := decide_eq_true c8
     clear c8
     by_cases c9 : 0 ≤ x7_2
     rotate_left
     ·rw [if_neg c9] at H
      exact absurd H (by simp)
     rw [if_pos c9] at H
     have c9b0 : decide (0 ≤ x7_2) = true := decide_eq_true c9
     clear c9
     by_cases c10 : (((rd_T50 l0 x7_2).f0).size : Int) > 40
     ·rw [if_pos c10] at H
      have c10b0 : decide (40 < (((rd_T50 l0 x7_2).f0).size : Int)) = true := decide_eq_true c10
      have c10b1 : decide (40 < ((rd_T50 l0 x7_2).f0).size) = true := decide_eq_true (by omega)
      clear c10
      obtain rfl := Option.some.inj H
      have p101 : 0 ≤ (x7_2 : Int) := of_decide_eq_true (by first | (with_reducible assumption) | assumption)
      have q101 : x7_2 < (l0.length : Int) := of_decide_eq_true (by first | (with_reducible assumption) | assumption)
      obtain ⟨ad101, e101, hx101_0, hx101_1, hx101_2, hx101_3, hx101_4⟩ := at_T50 HR0.out x7_2 p101 q101
      cases e101
      replace p101 := eq_true p101
      replace q101 := eq_true q101
      go_wp2
      go_ret
      exact ⟨by first | rfl | (simp; done) | (simp [*]; done), by repeat (first | exact Drawn0.refl _ | apply Drawn0.step)⟩
     rw [if_neg c10] at H
     have c10b0 : decide (40 < (((rd_T50 l0 x7_2).f0).size : Int)) = false := decide_eq_false c10
     have c10b1 : decide (40 < ((rd_T50 l0 x7_2).f0).size) = false := decide_eq_false (by omega)
     clear c10
     have H' := aS H
     clear H
     have p101 : 0 ≤ (x7_2 : Int) := of_decide_eq_true (by first | (with_reducible assumption) | assumption)
     have q101 : x7_2 < (l0.length : Int) := of_decide_eq_true (by first | (with_reducible assumption) | assumption)
     obtain ⟨ad101, e101, hx101_0, hx101_1, hx101_2, hx101_3, hx101_4⟩ := at_T50 HR0.out x7_2 p101 q101
     cases e101
     replace p101 := eq_true p101
     replace q101 := eq_true q101
     go_wp2
     go_roundg k2
     case measure => have := HJ3.out; have := HK2.out; omega
     case rel => exact ⟨(wrap64 (x7_2 + 1)), (by first | rfl | (simp; done) | (simp [*]; done)), H', ⟨by have := HJ3.out; have := HK2.out; omega⟩, by repeat (first | exact Drawn0.refl _ | apply Drawn0.step)⟩
    rw [if_neg c8] at H
    have c8b0 : decide (x7_2 < (l0.length : Int)) = false := decide_eq_false c8
    clear c8
    have H' := aS H
    clear H
    go_wp2
    go_loopg [8] k2 (fun kq v8 w' => ∃ (x8_3 : Int), v8 = .int .i64 x8_3 ∧ Aside0 (salchowref25_Small.l1 kq l1 l2 x8_3 = some r) ∧ Aside0 (kq ≤ k2) ∧ Drawn0 w w')
    case atStart => exact ⟨(0), (by first | rfl | (simp; done) | (simp [*]; done)), H', ⟨Nat.le_refl _⟩, by repeat (first | exact Drawn0.refl _ | apply Drawn0.step)⟩
    case round =>
     clear H'
     try clear c1
     try clear p1
     try clear q1
     try clear hx1
     try clear c2
     try clear p2
     try clear c3
     try clear c5
     try clear c5b0
     try clear c5b1
     try clear c6
     try clear c6b0
     try clear c6b1
     try clear p6
     try clear c7
     try clear c8
     try clear c8b0
     try clear c9
     try clear c9b0
     try clear c10
     try clear c10b0
     try clear c10b1
     try clear p10
     try clear q10
     try clear hx10
     try clear hx101_0
     try clear hx101_1
     try clear hx101_2
     try clear hx101_3
     try clear hx101_4
     try clear p101
     try clear p2
     try clear q101
     obtain ⟨x8_3, rfl, HA, HK3, ⟨m3, rfl⟩⟩ := hrel
     cases gk with
     | zero => exact absurd HA.out (by simp [salchowref25_Small.l1])
     | succ k3 =>
      have H := HA.out
      clear HA
      simp only [salchowref25_Small.l1] at H
      by_cases c11 : x8_3 < (l1.length : Int)
      ·rw [if_pos c11] at H
       have c11b0 : decide (x8_3 < (l1.length : Int)) = true := decide_eq_true c11
       clear c11
       by_cases c12 : 0 ≤ x8_3
       rotate_left
       ·rw [if_neg c12] at H
        exact absurd H (by simp)
       rw [if_pos c12] at H
       have c12b0 : decide (0 ≤ x8_3) = true := decide_eq_true c12
       clear c12
       by_cases c13 : (((rd_T50 l1 x8_3).f0).size : Int) > 40
       ·rw [if_pos c13] at H
        have c13b0 : decide (40 < (((rd_T50 l1 x8_3).f0).size : Int)) = true := decide_eq_true c13
        have c13b1 : decide (40 < ((rd_T50 l1 x8_3).f0).size) = true := decide_eq_true (by omega)
        clear c13
        obtain rfl := Option.some.inj H
        have p102 : 0 ≤ (x8_3 : Int) := of_decide_eq_true (by first | (with_reducible assumption) | assumption)
        have q102 : x8_3 < (l1.length : Int) := of_decide_eq_true (by first | (with_reducible assumption) | assumption)
        obtain ⟨ad102, e102, hx102_0, hx102_1, hx102_2, hx102_3, hx102_4⟩ := at_T50 HR1.out x8_3 p102 q102
        cases e102
        replace p102 := eq_true p102
        replace q102 := eq_true q102
        go_wp2
        go_ret
        exact ⟨by first | rfl | (simp; done) | (simp [*]; done), by repeat (first | exact Drawn0.refl _ | apply Drawn0.step)⟩
       rw [if_neg c13] at H
       have c13b0 : decide (40 < (((rd_T50 l1 x8_3).f0).size : Int)) = false := decide_eq_false c13
       have c13b1 : decide (40 < ((rd_T50 l1 x8_3).f0).size) = false := decide_eq_false (by omega)
       clear c13
       have H' := aS H
       clear H
       have p102 : 0 ≤ (x8_3 : Int) := of_decide_eq_true (by first | (with_reducible assumption) | assumption)
       have q102 : x8_3 < (l1.length : Int) := of_decide_eq_true (by first | (with_reducible assumption) | assumption)
       obtain ⟨ad102, e102, hx102_0, hx102_1, hx102_2, hx102_3, hx102_4⟩ := at_T50 HR1.out x8_3 p102 q102
       cases e102
       replace p102 := eq_true p102
       replace q102 := eq_true q102
       go_wp2
       go_roundg k3
       case measure => have := HJ3.out; have := HK2.out; have := HK3.out; omega
       case rel => exact ⟨(wrap64 (x8_3 + 1)), (by first | rfl | (simp; done) | (simp [*]; done)), H', ⟨by have := HJ3.out; have := HK2.out; have := HK3.out; omega⟩, by repeat (first | exact Drawn0.refl _ | apply Drawn0.step)⟩
      rw [if_neg c11] at H
      have c11b0 : decide (x8_3 < (l1.length : Int)) = false := decide_eq_false c11
      clear c11
      have H' := aS H
      clear H
      go_wp2
      go_loopg [9] k3 (fun kq v9 w' => ∃ (x9_4 : Int), v9 = .int .i64 x9_4 ∧ Aside0 (salchowref25_Small.l2 kq l2 x9_4 = some r) ∧ Aside0 (kq ≤ k3) ∧ Drawn0 w w')
      case atStart => exact ⟨(0), (by first | rfl | (simp; done) | (simp [*]; done)), H', ⟨Nat.le_refl _⟩, by repeat (first | exact Drawn0.refl _ | apply Drawn0.step)⟩
      case round =>
       clear H'
       try clear c1
       try clear p1
       try clear q1
       try clear hx1
       try clear c2
       try clear p2
       try clear c3
       try clear c5
       try clear c5b0
       try clear c5b1
       try clear c6
       try clear c6b0
       try clear c6b1
       try clear p6
       try clear c7
       try clear c8
       try clear c8b0
       try clear c9
       try clear c9b0
       try clear c10
       try clear c10b0
       try clear c10b1
       try clear p10
       try clear q10
       try clear hx10
       try clear c11
       try clear c11b0
       try clear c12
       try clear c12b0
       try clear c13
       try clear c13b0
       try clear c13b1
       try clear hx101_0
       try clear hx101_1
       try clear hx101_2
       try clear hx101_3
       try clear hx101_4
       try clear hx102_0
       try clear hx102_1
       try clear hx102_2
       try clear hx102_3
       try clear hx102_4
       try clear p1
       try clear p10
       try clear p101
       try clear p102
       try clear p2
       try clear p6
       try clear q1
       try clear q10
       try clear q101
       try clear q102
       obtain ⟨x9_4, rfl, HA, HK4, ⟨m4, rfl⟩⟩ := hrel
       cases gk with
       | zero => exact absurd HA.out (by simp [salchowref25_Small.l2])
       | succ k4 =>
        have H := HA.out
        clear HA
        simp only [salchowref25_Small.l2] at H
        by_cases c14 : x9_4 < (l2.length : Int)
        rotate_left
        ·rw [if_neg c14] at H
         have c14b0 : decide (x9_4 < (l2.length : Int)) = false := decide_eq_false c14
         clear c14
         obtain rfl := Option.some.inj H
         go_wp2
         go_ret
         exact ⟨by first | rfl | (simp; done) | (simp [*]; done), by repeat (first | exact Drawn0.refl _ | apply Drawn0.step)⟩

        rw [if_pos c14] at H
        have c14b0 : decide (x9_4 < (l2.length : Int)) = true := decide_eq_true c14
        clear c14
        by_cases c15 : 0 ≤ x9_4
        rotate_left
        ·rw [if_neg c15] at H
         exact absurd H (by simp)
        rw [if_pos c15] at H
        have c15b0 : decide (0 ≤ x9_4) = true := decide_eq_true c15
        clear c15
        by_cases c16 : (((rd_T58 l2 x9_4).f1.f0).size : Int) > 40
        ·rw [if_pos c16] at H
         have c16b0 : decide (40 < (((rd_T58 l2 x9_4).f1.f0).size : Int)) = true := decide_eq_true c16
         have c16b1 : decide (40 < ((rd_T58 l2 x9_4).f1.f0).size) = true := decide_eq_true (by omega)
         clear c16
         obtain rfl := Option.some.inj H
         have p103 : 0 ≤ (x9_4 : Int) := of_decide_eq_true (by first | (with_reducible assumption) | assumption)
         have q103 : x9_4 < (l2.length : Int) := of_decide_eq_true (by first | (with_reducible assumption) | assumption)
         obtain ⟨ad103, e103, hx103_0, hx103_1, hx103_2, hx103_3, hx103_4, hx103_5⟩ := at_T58 HR2.out x9_4 p103 q103
         cases e103
         replace p103 := eq_true p103
         replace q103 := eq_true q103
         go_wp2
         go_ret
         exact ⟨by first | rfl | (simp; done) | (simp [*]; done), by repeat (first | exact Drawn0.refl _ | apply Drawn0.step)⟩
        rw [if_neg c16] at H
        have c16b0 : decide (40 < (((rd_T58 l2 x9_4).f1.f0).size : Int)) = false := decide_eq_false c16
        have c16b1 : decide (40 < ((rd_T58 l2 x9_4).f1.f0).size) = false := decide_eq_false (by omega)
        clear c16
        have H' := aS H
        clear H
        have p103 : 0 ≤ (x9_4 : Int) := of_decide_eq_true (by first | (with_reducible assumption) | assumption)
        have q103 : x9_4 < (l2.length : Int) := of_decide_eq_true (by first | (with_reducible assumption) | assumption)
        obtain ⟨ad103, e103, hx103_0, hx103_1, hx103_2, hx103_3, hx103_4, hx103_5⟩ := at_T58 HR2.out x9_4 p103 q103
        cases e103
        replace p103 := eq_true p103
        replace q103 := eq_true q103
        go_wp2
        go_roundg k4
        case measure => have := HJ3.out; have := HK2.out; have := HK3.out; have := HK4.out; omega
        case rel => exact ⟨(wrap64 (x9_4 + 1)), (by first | rfl | (simp; done) | (simp [*]; done)), H', ⟨by have := HJ3.out; have := HK2.out; have := HK3.out; have := HK4.out; omega⟩, by repeat (first | exact Drawn0.refl _ | apply Drawn0.step)⟩
end Go.Proofs.Ytjmbkbnbepmhjaa.P
