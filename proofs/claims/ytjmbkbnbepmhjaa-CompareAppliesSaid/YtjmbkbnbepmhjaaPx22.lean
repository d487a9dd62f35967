-- out of a program (drive.sh), by way of the translation's print
import Derived.Test.YtjmbkbnbepmhjaaPx0
import Derived.Test.YtjmbkbnbepmhjaaPx1
import Derived.Test.YtjmbkbnbepmhjaaPx21
namespace Go.Proofs.Ytjmbkbnbepmhjaa.P
open Go.RowKit Go.Proofs.YtjmbkbnbepmhjaaW.PrintWords Go.Proofs.YtjmbkbnbepmhjaaW.PrintLast Go.Proofs.YtjmbkbnbepmhjaaW.PrintMore
attribute [local go_sem] max2_int min2_int max_two min_two max_three min_three max_four min_four   -- for this text's walks alone
set_option linter.unusedVariables false
set_option linter.unusedSimpArgs false

attribute [local go_sem high] eqA50
/-! ### salchowref25_Legal: function 38 -/
def salchowref25_Legal.l0 : Nat → List (S58) → Int → Option (Int)
 | 0, _, _ => none
 | k + 1, x0, x3 => if x3 < (x0.length : Int) then (if 0 ≤ x3 then ((salchowref25_Cost.f k ((rd_T58 x0 x3).f0)).bind fun t264 => (if t264 < 0 then (some 1) else (if ((rd_T58 x0 x3).f0) = 1 then (if (!((((rd_T58 x0 x3).f1.f0).toList) == ([] : List UInt8)) || (!(((rd_T58 x0 x3).f1.f1) == 0) || (((rd_T58 x0 x3).f1.f2) || (((rd_T58 x0 x3).f1.f3) || (((rd_T58 x0 x3).f1.f4)))))) = true then (some 1) else (salchowref25_Legal.l0 k x0 (wrap64 (x3 + 1)))) else (if ((rd_T58 x0 x3).f0) = 5 then (if (!((((rd_T58 x0 x3).f1.f0).toList) == ([] : List UInt8)) || (!(((rd_T58 x0 x3).f1.f1) == 0) || (((rd_T58 x0 x3).f1.f2) || (((rd_T58 x0 x3).f1.f3) || (((rd_T58 x0 x3).f1.f4)))))) = true then (some 1) else (salchowref25_Legal.l0 k x0 (wrap64 (x3 + 1)))) else (salchowref25_Legal.l0 k x0 (wrap64 (x3 + 1))))))) else (none)) else (some 0)
def salchowref25_Legal.f (k : Nat) (l0 : List (S58)) : Option (Int) := if (l0.length : Int) > 60 then (some 6) else (salchowref25_Legal.l0 k l0 0)
theorem salchowref25_Legal.mono_l : ∀ k, (∀ y0 y1, LeO (salchowref25_Legal.l0 k y0 y1) (salchowref25_Legal.l0 (k + 1) y0 y1))
 | 0 => fun _ _ r h => by simp [salchowref25_Legal.l0] at h
 | k + 1 => by
  have ih0 := salchowref25_Legal.mono_l k
  ·intro y0 y1
   unfold salchowref25_Legal.l0
   repeat' first
   | (with_reducible exact ih0 _ _)
   | (with_reducible exact salchowref25_Cost.mono _ _)
   | (with_reducible exact LeO.refl _)
   | (with_reducible exact LeO.none _)
   | (with_reducible refine LeO.ite ?_ ?_)
   | (with_reducible refine LeO.bind ?_ (fun _ => ?_))
   | exact ih0 _ _
   | exact salchowref25_Cost.mono _ _
   | exact LeO.none _
   | refine LeO.ite ?_ ?_
   | refine LeO.bind ?_ (fun _ => ?_)
theorem salchowref25_Legal.mono : ∀ a0 k, LeO (salchowref25_Legal.f k a0) (salchowref25_Legal.f (k + 1) a0) := by
 intro a0 k
 have ih0 := salchowref25_Legal.mono_l k
 unfold salchowref25_Legal.f
 repeat' first
   | (with_reducible exact ih0 _ _)
   | (with_reducible exact salchowref25_Cost.mono _ _)
   | (with_reducible exact LeO.refl _)
   | (with_reducible exact LeO.none _)
   | (with_reducible refine LeO.ite ?_ ?_)
   | (with_reducible refine LeO.bind ?_ (fun _ => ?_))
   | exact ih0 _ _
   | exact salchowref25_Cost.mono _ _
   | exact LeO.none _
   | refine LeO.ite ?_ ?_
   | refine LeO.bind ?_ (fun _ => ?_)
set_option maxHeartbeats 8000000 in
set_option maxRecDepth 100000 in
theorem salchowref25_Legal.calls (k : Nat) (A0 : Option Addr) (c0 : Nat) (l0 : List (S58)) (r : Int) (w : World) (hr0 : Kd.C k58 w A0 l0.length l0) (hc0 : l0.length ≤ c0) (h : salchowref25_Legal.f k l0 = some r) :
  Calls Try.prog 38 #[.slice A0 l0.length c0] w fun e w' => e = .returned (.int .i64 r) ∧ Drawn0 w w' := by
 have hu50 := Try.underlying50
 have HR0 := Aside0.mk hr0
 have HC0 := Aside0.mk hc0
 clear hr0 hc0
 have H : (if (l0.length : Int) > 60 then (some 6) else (salchowref25_Legal.l0 k l0 0)) = some r := h
 clear h
 by_cases c2 : (l0.length : Int) > 60
 ·rw [if_pos c2] at H
  have c2b0 : decide (60 < (l0.length : Int)) = true := decide_eq_true c2
  have c2b1 : decide (60 < l0.length) = true := decide_eq_true (by omega)
  clear c2
  obtain rfl := Option.some.inj H
  go_enter Try.func38, Try.ntmps38
  go_wp2
  go_ret
  exact ⟨by first | rfl | (simp; done) | (simp [*]; done), by repeat (first | exact Drawn0.refl _ | apply Drawn0.step)⟩
 rw [if_neg c2] at H
 have c2b0 : decide (60 < (l0.length : Int)) = false := decide_eq_false c2
 have c2b1 : decide (60 < l0.length) = false := decide_eq_false (by omega)
 clear c2
 have H' := Aside0.mk H
 clear H
 go_enter Try.func38, Try.ntmps38
 go_wp2
 go_loopg [3] k (fun kq v3 w' => ∃ (x3_1 : Int), v3 = .int .i64 x3_1 ∧ Aside0 (salchowref25_Legal.l0 kq l0 x3_1 = some r) ∧ Aside0 (kq ≤ k) ∧ Drawn0 w w')
 case atStart => exact ⟨(0), (by first | rfl | (simp; done) | (simp [*]; done)), H', ⟨Nat.le_refl _⟩, by repeat (first | exact Drawn0.refl _ | apply Drawn0.step)⟩
 case round =>
  clear H'
  try clear c2
  try clear c2b0
  try clear c2b1
  try clear p2
  obtain ⟨x3_1, rfl, HA, HK1, ⟨m1, rfl⟩⟩ := hrel
  cases gk with
  | zero => exact absurd HA.out (by simp [salchowref25_Legal.l0])
  | succ k1 =>
   have H := HA.out
   clear HA
   simp only [salchowref25_Legal.l0] at H
   by_cases c3 : x3_1 < (l0.length : Int)
   rotate_left
   ·rw [if_neg c3] at H
    have c3b0 : decide (x3_1 < (l0.length : Int)) = false := decide_eq_false c3
    clear c3
    obtain rfl := Option.some.inj H
    go_wp2
    go_ret
    exact ⟨by first | rfl | (simp; done) | (simp [*]; done), by repeat (first | exact Drawn0.refl _ | apply Drawn0.step)⟩

   rw [if_pos c3] at H
   have c3b0 : decide (x3_1 < (l0.length : Int)) = true := decide_eq_true c3
   clear c3
   by_cases c4 : 0 ≤ x3_1
   rotate_left
   ·rw [if_neg c4] at H
    exact absurd H (by simp)
   rw [if_pos c4] at H
   have c4b0 : decide (0 ≤ x3_1) = true := decide_eq_true c4
   clear c4
   replace H := Option.bind_eq_some_iff.mp H
   obtain ⟨t264, A50, H⟩ := H
   replace H : (if t264 < 0 then (some 1) else (if ((rd_T58 l0 x3_1).f0) = 1 then (if (!((((rd_T58 l0 x3_1).f1.f0).toList) == ([] : List UInt8)) || (!(((rd_T58 l0 x3_1).f1.f1) == 0) || (((rd_T58 l0 x3_1).f1.f2) || (((rd_T58 l0 x3_1).f1.f3) || (((rd_T58 l0 x3_1).f1.f4)))))) = true then (some 1) else (salchowref25_Legal.l0 k1 l0 (wrap64 (x3_1 + 1)))) else (if ((rd_T58 l0 x3_1).f0) = 5 then (if (!((((rd_T58 l0 x3_1).f1.f0).toList) == ([] : List UInt8)) || (!(((rd_T58 l0 x3_1).f1.f1) == 0) || (((rd_T58 l0 x3_1).f1.f2) || (((rd_T58 l0 x3_1).f1.f3) || (((rd_T58 l0 x3_1).f1.f4)))))) = true then (some 1) else (salchowref25_Legal.l0 k1 l0 (wrap64 (x3_1 + 1)))) else (salchowref25_Legal.l0 k1 l0 (wrap64 (x3_1 + 1)))))) = some r := H
   have A5 := Aside0.mk A50
   clear A50
   by_cases c6 : t264 < 0
   ·rw [if_pos c6] at H
    have c6b0 : decide (t264 < 0) = true := decide_eq_true c6
    clear c6
    obtain rfl := Option.some.inj H
    have p263 : 0 ≤ (x3_1 : Int) := of_decide_eq_true (by first | (with_reducible assumption) | assumption)
    have q263 : x3_1 < (l0.length : Int) := of_decide_eq_true (by first | (with_reducible assumption) | assumption)
    obtain ⟨ad263, e263, hx263_0, hx263_1, hx263_2, hx263_3, hx263_4, hx263_5⟩ := at_T58 HR0.out x3_1 p263 q263
    cases e263
    replace p263 := eq_true p263
    replace q263 := eq_true q263
    go_wp2_with (first | ((with_reducible refine gate_callee (f := 31) rfl ?_); refine goesL_ (some 18) rfl rfl Try.func31 (by kernel_rfl) rfl #[.int .i64 ((rd_T58 l0 x3_1).f0)] rfl (by (try simp only [List.map_toArray, List.map_cons, List.map_nil]); first | done | rfl | (simp only [List.length_drop, List.length_take]; rfl)) ?_; (with_reducible refine (salchowref25_Cost.calls k1 ((rd_T58 l0 x3_1).f0) t264 _ A5.out).mono ?_); rintro e w' ⟨rfl, ⟨nd, rfl⟩⟩; refine ⟨_, rfl, ?_⟩))
    go_ret
    exact ⟨by first | rfl | (simp; done) | (simp [*]; done), by repeat (first | exact Drawn0.refl _ | apply Drawn0.step)⟩
   rw [if_neg c6] at H
   have c6b0 : decide (t264 < 0) = false := decide_eq_false c6
   clear c6
   by_cases c7 : ((rd_T58 l0 x3_1).f0) = 1
   ·rw [if_pos c7] at H
    have c7b0 : (((rd_T58 l0 x3_1).f0) == 1) = true := beq_iff_eq.mpr c7
    have c7b1 : (((rd_T58 l0 x3_1).f0) != 1) = false := bne_eq_false_iff_eq.mpr c7
    clear c7
    by_cases c8 : (!((((rd_T58 l0 x3_1).f1.f0).toList) == ([] : List UInt8)) || (!(((rd_T58 l0 x3_1).f1.f1) == 0) || (((rd_T58 l0 x3_1).f1.f2) || (((rd_T58 l0 x3_1).f1.f3) || (((rd_T58 l0 x3_1).f1.f4)))))) = true
    ·rw [if_pos c8] at H
     have c8b0 : (!((((rd_T58 l0 x3_1).f1.f0).toList) == ([] : List UInt8)) || (!(((rd_T58 l0 x3_1).f1.f1) == 0) || (((rd_T58 l0 x3_1).f1.f2) || (((rd_T58 l0 x3_1).f1.f3) || (((rd_T58 l0 x3_1).f1.f4)))))) = true := c8
     have he_ : ((((rd_T58 l0 x3_1).f1.f0).toList) == ([] : List UInt8)) = List.isEmpty (((rd_T58 l0 x3_1).f1.f0).toList) := by cases (((rd_T58 l0 x3_1).f1.f0).toList) <;> rfl
     rw [he_] at c8b0
     clear he_
     clear c8
     obtain rfl := Option.some.inj H
     have p263 : 0 ≤ (x3_1 : Int) := of_decide_eq_true (by first | (with_reducible assumption) | assumption)
     have q263 : x3_1 < (l0.length : Int) := of_decide_eq_true (by first | (with_reducible assumption) | assumption)
     obtain ⟨ad263, e263, hx263_0, hx263_1, hx263_2, hx263_3, hx263_4, hx263_5⟩ := at_T58 HR0.out x3_1 p263 q263
     cases e263
     replace p263 := eq_true p263
     replace q263 := eq_true q263
     go_wp2_with (first | ((with_reducible refine gate_callee (f := 31) rfl ?_); refine goesL_ (some 18) rfl rfl Try.func31 (by kernel_rfl) rfl #[.int .i64 ((rd_T58 l0 x3_1).f0)] rfl (by (try simp only [List.map_toArray, List.map_cons, List.map_nil]); first | done | rfl | (simp only [List.length_drop, List.length_take]; rfl)) ?_; (with_reducible refine (salchowref25_Cost.calls k1 ((rd_T58 l0 x3_1).f0) t264 _ A5.out).mono ?_); rintro e w' ⟨rfl, ⟨nd, rfl⟩⟩; refine ⟨_, rfl, ?_⟩; have p265 : 0 ≤ (x3_1 : Int) := of_decide_eq_true (by first | (with_reducible assumption) | assumption); have q265 : x3_1 < (l0.length : Int) := of_decide_eq_true (by first | (with_reducible assumption) | assumption); obtain ⟨ad265, e265, hx265_0, hx265_1, hx265_2, hx265_3, hx265_4, hx265_5⟩ := at_T58 HR0.out x3_1 p265 q265; obtain rfl : ad263 = ad265 := (by injection e265); replace p265 := eq_true p265; replace q265 := eq_true q265; have p266 : 0 ≤ (x3_1 : Int) := of_decide_eq_true (by first | (with_reducible assumption) | assumption); have q266 : x3_1 < (l0.length : Int) := of_decide_eq_true (by first | (with_reducible assumption) | assumption); obtain ⟨ad266, e266, hx266_0, hx266_1, hx266_2, hx266_3, hx266_4, hx266_5⟩ := at_T58 HR0.out x3_1 p266 q266; obtain rfl : ad263 = ad266 := (by injection e266); replace p266 := eq_true p266; replace q266 := eq_true q266))
     go_ret
     exact ⟨by first | rfl | (simp; done) | (simp [*]; done), by repeat (first | exact Drawn0.refl _ | apply Drawn0.step)⟩
    rw [if_neg c8] at H
    have c8b0 : (!((((rd_T58 l0 x3_1).f1.f0).toList) == ([] : List UInt8)) || (!(((rd_T58 l0 x3_1).f1.f1) == 0) || (((rd_T58 l0 x3_1).f1.f2) || (((rd_T58 l0 x3_1).f1.f3) || (((rd_T58 l0 x3_1).f1.f4)))))) = false := by simpa using c8
    have he_ : ((((rd_T58 l0 x3_1).f1.f0).toList) == ([] : List UInt8)) = List.isEmpty (((rd_T58 l0 x3_1).f1.f0).toList) := by cases (((rd_T58 l0 x3_1).f1.f0).toList) <;> rfl
    rw [he_] at c8b0
    clear he_
    clear c8
    have H' := Aside0.mk H
    clear H
    have p263 : 0 ≤ (x3_1 : Int) := of_decide_eq_true (by first | (with_reducible assumption) | assumption)
    have q263 : x3_1 < (l0.length : Int) := of_decide_eq_true (by first | (with_reducible assumption) | assumption)
    obtain ⟨ad263, e263, hx263_0, hx263_1, hx263_2, hx263_3, hx263_4, hx263_5⟩ := at_T58 HR0.out x3_1 p263 q263
    cases e263
    replace p263 := eq_true p263
    replace q263 := eq_true q263
    go_wp2_with (first | ((with_reducible refine gate_callee (f := 31) rfl ?_); refine goesL_ (some 18) rfl rfl Try.func31 (by kernel_rfl) rfl #[.int .i64 ((rd_T58 l0 x3_1).f0)] rfl (by (try simp only [List.map_toArray, List.map_cons, List.map_nil]); first | done | rfl | (simp only [List.length_drop, List.length_take]; rfl)) ?_; (with_reducible refine (salchowref25_Cost.calls k1 ((rd_T58 l0 x3_1).f0) t264 _ A5.out).mono ?_); rintro e w' ⟨rfl, ⟨nd, rfl⟩⟩; refine ⟨_, rfl, ?_⟩; have p265 : 0 ≤ (x3_1 : Int) := of_decide_eq_true (by first | (with_reducible assumption) | assumption); have q265 : x3_1 < (l0.length : Int) := of_decide_eq_true (by first | (with_reducible assumption) | assumption); obtain ⟨ad265, e265, hx265_0, hx265_1, hx265_2, hx265_3, hx265_4, hx265_5⟩ := at_T58 HR0.out x3_1 p265 q265; obtain rfl : ad263 = ad265 := (by injection e265); replace p265 := eq_true p265; replace q265 := eq_true q265; have p266 : 0 ≤ (x3_1 : Int) := of_decide_eq_true (by first | (with_reducible assumption) | assumption); have q266 : x3_1 < (l0.length : Int) := of_decide_eq_true (by first | (with_reducible assumption) | assumption); obtain ⟨ad266, e266, hx266_0, hx266_1, hx266_2, hx266_3, hx266_4, hx266_5⟩ := at_T58 HR0.out x3_1 p266 q266; obtain rfl : ad263 = ad266 := (by injection e266); replace p266 := eq_true p266; replace q266 := eq_true q266))
    go_roundg k1
    case measure => have := HK1.out; omega
    case rel => exact ⟨(wrap64 (x3_1 + 1)), (by first | rfl | (simp; done) | (simp [*]; done)), H', ⟨by have := HK1.out; omega⟩, by repeat (first | exact Drawn0.refl _ | apply Drawn0.step)⟩
   rw [if_neg c7] at H
   have c7b0 : (((rd_T58 l0 x3_1).f0) == 1) = false := beq_eq_false_iff_ne.mpr c7
   have c7b1 : (((rd_T58 l0 x3_1).f0) != 1) = true := bne_iff_ne.mpr c7
   by_cases c9 : ((rd_T58 l0 x3_1).f0) = 5
   rotate_left
   ·rw [if_neg c9] at H
    have c9b0 : (((rd_T58 l0 x3_1).f0) == 5) = false := beq_eq_false_iff_ne.mpr c9
    have c9b1 : (((rd_T58 l0 x3_1).f0) != 5) = true := bne_iff_ne.mpr c9
    have H' := Aside0.mk H
    clear H
    have p263 : 0 ≤ (x3_1 : Int) := of_decide_eq_true (by first | (with_reducible assumption) | assumption)
    have q263 : x3_1 < (l0.length : Int) := of_decide_eq_true (by first | (with_reducible assumption) | assumption)
    obtain ⟨ad263, e263, hx263_0, hx263_1, hx263_2, hx263_3, hx263_4, hx263_5⟩ := at_T58 HR0.out x3_1 p263 q263
    cases e263
    replace p263 := eq_true p263
    replace q263 := eq_true q263
    go_wp2_with (first | ((with_reducible refine gate_callee (f := 31) rfl ?_); refine goesL_ (some 18) rfl rfl Try.func31 (by kernel_rfl) rfl #[.int .i64 ((rd_T58 l0 x3_1).f0)] rfl (by (try simp only [List.map_toArray, List.map_cons, List.map_nil]); first | done | rfl | (simp only [List.length_drop, List.length_take]; rfl)) ?_; (with_reducible refine (salchowref25_Cost.calls k1 ((rd_T58 l0 x3_1).f0) t264 _ A5.out).mono ?_); rintro e w' ⟨rfl, ⟨nd, rfl⟩⟩; refine ⟨_, rfl, ?_⟩; have p265 : 0 ≤ (x3_1 : Int) := of_decide_eq_true (by first | (with_reducible assumption) | assumption); have q265 : x3_1 < (l0.length : Int) := of_decide_eq_true (by first | (with_reducible assumption) | assumption); obtain ⟨ad265, e265, hx265_0, hx265_1, hx265_2, hx265_3, hx265_4, hx265_5⟩ := at_T58 HR0.out x3_1 p265 q265; obtain rfl : ad263 = ad265 := (by injection e265); replace p265 := eq_true p265; replace q265 := eq_true q265; have p267 : 0 ≤ (x3_1 : Int) := of_decide_eq_true (by first | (with_reducible assumption) | assumption); have q267 : x3_1 < (l0.length : Int) := of_decide_eq_true (by first | (with_reducible assumption) | assumption); obtain ⟨ad267, e267, hx267_0, hx267_1, hx267_2, hx267_3, hx267_4, hx267_5⟩ := at_T58 HR0.out x3_1 p267 q267; obtain rfl : ad263 = ad267 := (by injection e267); replace p267 := eq_true p267; replace q267 := eq_true q267))
    go_roundg k1
    case measure => have := HK1.out; omega
    case rel => exact ⟨(wrap64 (x3_1 + 1)), (by first | rfl | (simp; done) | (simp [*]; done)), H', ⟨by have := HK1.out; omega⟩, by repeat (first | exact Drawn0.refl _ | apply Drawn0.step)⟩
   rw [if_pos c9] at H
   have c9b0 : (((rd_T58 l0 x3_1).f0) == 5) = true := beq_iff_eq.mpr c9
   have c9b1 : (((rd_T58 l0 x3_1).f0) != 5) = false := bne_eq_false_iff_eq.mpr c9
   clear c9
   by_cases c10 : (!((((rd_T58 l0 x3_1).f1.f0).toList) == ([] : List UInt8)) || (!(((rd_T58 l0 x3_1).f1.f1) == 0) || (((rd_T58 l0 x3_1).f1.f2) || (((rd_T58 l0 x3_1).f1.f3) || (((rd_T58 l0 x3_1).f1.f4)))))) = true
   ·rw [if_pos c10] at H
    have c10b0 : (!((((rd_T58 l0 x3_1).f1.f0).toList) == ([] : List UInt8)) || (!(((rd_T58 l0 x3_1).f1.f1) == 0) || (((rd_T58 l0 x3_1).f1.f2) || (((rd_T58 l0 x3_1).f1.f3) || (((rd_T58 l0 x3_1).f1.f4)))))) = true := c10
    have he_ : ((((rd_T58 l0 x3_1).f1.f0).toList) == ([] : List UInt8)) = List.isEmpty (((rd_T58 l0 x3_1).f1.f0).toList) := by cases (((rd_T58 l0 x3_1).f1.f0).toList) <;> rfl
    rw [he_] at c10b0
    clear he_
    clear c10
    obtain rfl := Option.some.inj H
    have p263 : 0 ≤ (x3_1 : Int) := of_decide_eq_true (by first | (with_reducible assumption) | assumption)
    have q263 : x3_1 < (l0.length : Int) := of_decide_eq_true (by first | (with_reducible assumption) | assumption)
    obtain ⟨ad263, e263, hx263_0, hx263_1, hx263_2, hx263_3, hx263_4, hx263_5⟩ := at_T58 HR0.out x3_1 p263 q263
    cases e263
    replace p263 := eq_true p263
    replace q263 := eq_true q263
    go_wp2_with (first | ((with_reducible refine gate_callee (f := 31) rfl ?_); refine goesL_ (some 18) rfl rfl Try.func31 (by kernel_rfl) rfl #[.int .i64 ((rd_T58 l0 x3_1).f0)] rfl (by (try simp only [List.map_toArray, List.map_cons, List.map_nil]); first | done | rfl | (simp only [List.length_drop, List.length_take]; rfl)) ?_; (with_reducible refine (salchowref25_Cost.calls k1 ((rd_T58 l0 x3_1).f0) t264 _ A5.out).mono ?_); rintro e w' ⟨rfl, ⟨nd, rfl⟩⟩; refine ⟨_, rfl, ?_⟩; have p265 : 0 ≤ (x3_1 : Int) := of_decide_eq_true (by first | (with_reducible assumption) | assumption); have q265 : x3_1 < (l0.length : Int) := of_decide_eq_true (by first | (with_reducible assumption) | assumption); obtain ⟨ad265, e265, hx265_0, hx265_1, hx265_2, hx265_3, hx265_4, hx265_5⟩ := at_T58 HR0.out x3_1 p265 q265; obtain rfl : ad263 = ad265 := (by injection e265); replace p265 := eq_true p265; replace q265 := eq_true q265; have p267 : 0 ≤ (x3_1 : Int) := of_decide_eq_true (by first | (with_reducible assumption) | assumption); have q267 : x3_1 < (l0.length : Int) := of_decide_eq_true (by first | (with_reducible assumption) | assumption); obtain ⟨ad267, e267, hx267_0, hx267_1, hx267_2, hx267_3, hx267_4, hx267_5⟩ := at_T58 HR0.out x3_1 p267 q267; obtain rfl : ad263 = ad267 := (by injection e267); replace p267 := eq_true p267; replace q267 := eq_true q267; have p268 : 0 ≤ (x3_1 : Int) := of_decide_eq_true (by first | (with_reducible assumption) | assumption); have q268 : x3_1 < (l0.length : Int) := of_decide_eq_true (by first | (with_reducible assumption) | assumption); obtain ⟨ad268, e268, hx268_0, hx268_1, hx268_2, hx268_3, hx268_4, hx268_5⟩ := at_T58 HR0.out x3_1 p268 q268; obtain rfl : ad263 = ad268 := (by injection e268); replace p268 := eq_true p268; replace q268 := eq_true q268))
    go_ret
    exact ⟨by first | rfl | (simp; done) | (simp [*]; done), by repeat (first | exact Drawn0.refl _ | apply Drawn0.step)⟩
   rw [if_neg c10] at H
   have c10b0 : (!((((rd_T58 l0 x3_1).f1.f0).toList) == ([] : List UInt8)) || (!(((rd_T58 l0 x3_1).f1.f1) == 0) || (((rd_T58 l0 x3_1).f1.f2) || (((rd_T58 l0 x3_1).f1.f3) || (((rd_T58 l0 x3_1).f1.f4)))))) = false := by simpa using c10
   have he_ : ((((rd_T58 l0 x3_1).f1.f0).toList) == ([] : List UInt8)) = List.isEmpty (((rd_T58 l0 x3_1).f1.f0).toList) := by cases (((rd_T58 l0 x3_1).f1.f0).toList) <;> rfl
   rw [he_] at c10b0
   clear he_
   clear c10
   have H' := Aside0.mk H
   clear H
   have p263 : 0 ≤ (x3_1 : Int) := of_decide_eq_true (by first | (with_reducible assumption) | assumption)
   have q263 : x3_1 < (l0.length : Int) := of_decide_eq_true (by first | (with_reducible assumption) | assumption)
   obtain ⟨ad263, e263, hx263_0, hx263_1, hx263_2, hx263_3, hx263_4, hx263_5⟩ := at_T58 HR0.out x3_1 p263 q263
   cases e263
   replace p263 := eq_true p263
   replace q263 := eq_true q263
   go_wp2_with (first | ((with_reducible refine gate_callee (f := 31) rfl ?_); refine goesL_ (some 18) rfl rfl Try.func31 (by kernel_rfl) rfl #[.int .i64 ((rd_T58 l0 x3_1).f0)] rfl (by (try simp only [List.map_toArray, List.map_cons, List.map_nil]); first | done | rfl | (simp only [List.length_drop, List.length_take]; rfl)) ?_; (with_reducible refine (salchowref25_Cost.calls k1 ((rd_T58 l0 x3_1).f0) t264 _ A5.out).mono ?_); rintro e w' ⟨rfl, ⟨nd, rfl⟩⟩; refine ⟨_, rfl, ?_⟩; have p265 : 0 ≤ (x3_1 : Int) := of_decide_eq_true (by first | (with_reducible assumption) | assumption); have q265 : x3_1 < (l0.length : Int) := of_decide_eq_true (by first | (with_reducible assumption) | assumption); obtain ⟨ad265, e265, hx265_0, hx265_1, hx265_2, hx265_3, hx265_4, hx265_5⟩ := at_T58 HR0.out x3_1 p265 q265; obtain rfl : ad263 = ad265 := (by injection e265); replace p265 := eq_true p265; replace q265 := eq_true q265; have p267 : 0 ≤ (x3_1 : Int) := of_decide_eq_true (by first | (with_reducible assumption) | assumption); have q267 : x3_1 < (l0.length : Int) := of_decide_eq_true (by first | (with_reducible assumption) | assumption); obtain ⟨ad267, e267, hx267_0, hx267_1, hx267_2, hx267_3, hx267_4, hx267_5⟩ := at_T58 HR0.out x3_1 p267 q267; obtain rfl : ad263 = ad267 := (by injection e267); replace p267 := eq_true p267; replace q267 := eq_true q267; have p268 : 0 ≤ (x3_1 : Int) := of_decide_eq_true (by first | (with_reducible assumption) | assumption); have q268 : x3_1 < (l0.length : Int) := of_decide_eq_true (by first | (with_reducible assumption) | assumption); obtain ⟨ad268, e268, hx268_0, hx268_1, hx268_2, hx268_3, hx268_4, hx268_5⟩ := at_T58 HR0.out x3_1 p268 q268; obtain rfl : ad263 = ad268 := (by injection e268); replace p268 := eq_true p268; replace q268 := eq_true q268))
   go_roundg k1
   case measure => have := HK1.out; omega
   case rel => exact ⟨(wrap64 (x3_1 + 1)), (by first | rfl | (simp; done) | (simp [*]; done)), H', ⟨by have := HK1.out; omega⟩, by repeat (first | exact Drawn0.refl _ | apply Drawn0.step)⟩
end Go.Proofs.Ytjmbkbnbepmhjaa.P
