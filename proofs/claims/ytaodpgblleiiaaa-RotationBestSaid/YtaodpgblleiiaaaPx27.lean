-- out of a program (drive.sh), by way of the translation's print
import Derived.Test.YtaodpgblleiiaaaPx0
namespace Go.Proofs.Ytaodpgblleiiaaa.P
open Go.RowKit Go.Proofs.YtaodpgblleiiaaaW.PrintWords Go.Proofs.YtaodpgblleiiaaaW.PrintLast Go.Proofs.YtaodpgblleiiaaaW.PrintMore
attribute [local go_sem] max2_int min2_int max_two min_two max_three min_three max_four min_four   -- for this text's walks alone
set_option linter.unusedVariables false
set_option linter.unusedSimpArgs false

/-! ### salchowref36_Once: function 35 -/
mutual
def salchowref36_Once.l0 : Nat → List Int → Int → Int → Option (Bool)
  | 0, _, _, _ => none
  | k + 1, x0, x1, x5 => if x5 < x1 then (if 0 ≤ x5 then (if x5 < (x0.length : Int) then (if (rd x0 x5) < 0 then (salchowref36_Once.j1 k x0 x1 x5 true) else (salchowref36_Once.j1 k x0 x1 x5 (decide ((rd x0 x5) ≥ x1)))) else (none)) else (none)) else (some true)
def salchowref36_Once.j1 : Nat → List Int → Int → Int → Bool → Option (Bool)
  | 0, _, _, _, _ => none
  | k + 1, x0, x1, x5, x28 => if x28 = true then (some false) else (salchowref36_Once.l1 k x0 x1 x5 0)
def salchowref36_Once.l1 : Nat → List Int → Int → Int → Int → Option (Bool)
  | 0, _, _, _, _ => none
  | k + 1, x0, x1, x5, x6 => if x6 < x5 then (if 0 ≤ x6 then (if x6 < (x0.length : Int) then (if 0 ≤ x5 then (if x5 < (x0.length : Int) then (if (rd x0 x6) = (rd x0 x5) then (some false) else (salchowref36_Once.l1 k x0 x1 x5 (wrap64 (x6 + 1)))) else (none)) else (none)) else (none)) else (none)) else (salchowref36_Once.l0 k x0 x1 (wrap64 (x5 + 1)))
end
def salchowref36_Once.f (k : Nat) (l0 : List Int) (a1 : Int) : Option (Bool) := if (l0.length : Int) = a1 then (salchowref36_Once.l0 k l0 a1 0) else (some false)
theorem salchowref36_Once.mono_l : ∀ k, (∀ y0 y1 y2, LeO (salchowref36_Once.l0 k y0 y1 y2) (salchowref36_Once.l0 (k + 1) y0 y1 y2)) ∧ (∀ y0 y1 y2 y3, LeO (salchowref36_Once.j1 k y0 y1 y2 y3) (salchowref36_Once.j1 (k + 1) y0 y1 y2 y3)) ∧ (∀ y0 y1 y2 y3, LeO (salchowref36_Once.l1 k y0 y1 y2 y3) (salchowref36_Once.l1 (k + 1) y0 y1 y2 y3))
  | 0 => ⟨fun _ _ _ r h => by simp [salchowref36_Once.l0] at h, fun _ _ _ _ r h => by simp [salchowref36_Once.j1] at h, fun _ _ _ _ r h => by simp [salchowref36_Once.l1] at h⟩
  | k + 1 => by
    obtain ⟨ih0, ih1, ih2⟩ := salchowref36_Once.mono_l k
    refine ⟨?_, ?_, ?_⟩
    · intro y0 y1 y2
      unfold salchowref36_Once.l0
      repeat' first
      | (with_reducible exact ih0 _ _ _)
      | (with_reducible exact ih1 _ _ _ _)
      | (with_reducible exact ih2 _ _ _ _)
      | (with_reducible exact LeO.refl _)
      | (with_reducible exact LeO.none _)
      | (with_reducible refine LeO.ite ?_ ?_)
      | (with_reducible refine LeO.bind ?_ (fun _ => ?_))
      | exact ih0 _ _ _
      | exact ih1 _ _ _ _
      | exact ih2 _ _ _ _
      | exact LeO.none _
      | refine LeO.ite ?_ ?_
      | refine LeO.bind ?_ (fun _ => ?_)
    · intro y0 y1 y2 y3
      unfold salchowref36_Once.j1
      repeat' first
      | (with_reducible exact ih0 _ _ _)
      | (with_reducible exact ih1 _ _ _ _)
      | (with_reducible exact ih2 _ _ _ _)
      | (with_reducible exact LeO.refl _)
      | (with_reducible exact LeO.none _)
      | (with_reducible refine LeO.ite ?_ ?_)
      | (with_reducible refine LeO.bind ?_ (fun _ => ?_))
      | exact ih0 _ _ _
      | exact ih1 _ _ _ _
      | exact ih2 _ _ _ _
      | exact LeO.none _
      | refine LeO.ite ?_ ?_
      | refine LeO.bind ?_ (fun _ => ?_)
    · intro y0 y1 y2 y3
      unfold salchowref36_Once.l1
      repeat' first
      | (with_reducible exact ih0 _ _ _)
      | (with_reducible exact ih1 _ _ _ _)
      | (with_reducible exact ih2 _ _ _ _)
      | (with_reducible exact LeO.refl _)
      | (with_reducible exact LeO.none _)
      | (with_reducible refine LeO.ite ?_ ?_)
      | (with_reducible refine LeO.bind ?_ (fun _ => ?_))
      | exact ih0 _ _ _
      | exact ih1 _ _ _ _
      | exact ih2 _ _ _ _
      | exact LeO.none _
      | refine LeO.ite ?_ ?_
      | refine LeO.bind ?_ (fun _ => ?_)
theorem salchowref36_Once.mono : ∀ a0 a1 k, LeO (salchowref36_Once.f k a0 a1) (salchowref36_Once.f (k + 1) a0 a1) := by
  intro a0 a1 k
  obtain ⟨ih0, ih1, ih2⟩ := salchowref36_Once.mono_l k
  unfold salchowref36_Once.f
  repeat' first
      | (with_reducible exact ih0 _ _ _)
      | (with_reducible exact ih1 _ _ _ _)
      | (with_reducible exact ih2 _ _ _ _)
      | (with_reducible exact LeO.refl _)
      | (with_reducible exact LeO.none _)
      | (with_reducible refine LeO.ite ?_ ?_)
      | (with_reducible refine LeO.bind ?_ (fun _ => ?_))
      | exact ih0 _ _ _
      | exact ih1 _ _ _ _
      | exact ih2 _ _ _ _
      | exact LeO.none _
      | refine LeO.ite ?_ ?_
      | refine LeO.bind ?_ (fun _ => ?_)
set_option maxHeartbeats 8000000 in
set_option maxRecDepth 100000 in
theorem salchowref36_Once.calls (k : Nat) (A0 : Option Addr) (c0 : Nat) (l0 : List Int) (a1 : Int) (r : Bool) (w : World) (hr0 : Kd.C (Kd.int .i64) w A0 l0.length l0) (hc0 : l0.length ≤ c0) (h : salchowref36_Once.f k l0 a1 = some r) :
    Calls Try.prog 35 #[.slice A0 l0.length c0, .int .i64 a1] w fun e w' => e = .returned (.bool r) ∧ Drawn0 w w' := by
  have HR0 := Aside0.mk hr0
  have HC0 := Aside0.mk hc0
  clear hr0 hc0
  have H : (if (l0.length : Int) = a1 then (salchowref36_Once.l0 k l0 a1 0) else (some false)) = some r := h
  clear h
  by_cases c3 : (l0.length : Int) = a1
  · rw [if_pos c3] at H
    have c3b0 : ((l0.length : Int) == a1) = true := beq_iff_eq.mpr c3
    have c3b1 : ((l0.length : Int) != a1) = false := bne_eq_false_iff_eq.mpr c3
    clear c3
    have H' := Aside0.mk H
    clear H
    go_enter Try.func35, Try.ntmps35
    go_wp2
    repeat (go_quiet (fail); try go_wp2)
    go_loopg [5] k (fun kq v5 w' => ∃ (x5_1 : Int), v5 = .int .i64 x5_1 ∧ Aside0 (salchowref36_Once.l0 kq l0 a1 x5_1 = some r) ∧ Aside0 (kq ≤ k) ∧ Drawn0 w w')
    case atStart => exact ⟨(0), (by first | rfl | (simp; done) | (simp [*]; done)), H', ⟨Nat.le_refl _⟩, by repeat (first | exact Drawn0.refl _ | apply Drawn0.step)⟩
    case round =>
      clear H'
      try clear p2
      try clear c3
      try clear c3b0
      try clear c3b1
      obtain ⟨x5_1, rfl, HA, HK1, ⟨m1, rfl⟩⟩ := hrel
      cases gk with
      | zero => exact absurd HA.out (by simp [salchowref36_Once.l0])
      | succ k1 =>
        have H := HA.out
        clear HA
        simp only [salchowref36_Once.l0] at H
        by_cases c4 : x5_1 < a1
        · rw [if_pos c4] at H
          have c4b0 : decide (x5_1 < a1) = true := decide_eq_true c4
          clear c4
          have HC5 := Aside0.mk H
          clear H
          go_upto_region 6 with (fail)
          repeat (go_quiet (fail); go_upto_region 6 with (fail))
          go_cut [28] (fun v28 wc => ∃ (kq : Nat) (x28_4 : Bool), v28 = .bool x28_4 ∧ Aside0 (salchowref36_Once.j1 kq l0 a1 x5_1 x28_4 = some r) ∧ Aside0 (kq ≤ k1) ∧ Drawn0 w wc)
          case first =>
            have H := HC5.out
            clear HC5
            by_cases c6 : 0 ≤ x5_1
            · rw [if_pos c6] at H
              have c6b0 : decide (0 ≤ x5_1) = true := decide_eq_true c6
              clear c6
              (first | rw [c6b0] | (simp only [i64_w, i32_w]; rw [c6b0]) | skip)
              by_cases c7 : x5_1 < (l0.length : Int)
              · rw [if_pos c7] at H
                have c7b0 : decide (x5_1 < (l0.length : Int)) = true := decide_eq_true c7
                clear c7
                by_cases c8 : (rd l0 x5_1) < 0
                · rw [if_pos c8] at H
                  have c8b0 : decide ((rd l0 x5_1) < 0) = true := decide_eq_true c8
                  clear c8
                  have H' := Aside0.mk H
                  clear H
                  have p343 : 0 ≤ (x5_1 : Int) := of_decide_eq_true (by first | (with_reducible assumption) | assumption)
                  have q343 : x5_1 < (l0.length : Int) := of_decide_eq_true (by first | (with_reducible assumption) | assumption)
                  obtain ⟨ad343, e343, hx343_0⟩ := Kd.at_int HR0.out x5_1 p343 q343
                  cases e343
                  replace p343 := eq_true p343
                  replace q343 := eq_true q343
                  go_wp2
                  repeat (go_quiet (fail); try go_wp2)
                  go_meet
                  case rel => exact ⟨_, (true), (by first | rfl | (simp; done) | (simp [*]; done)), H', ⟨by have := HK1.out; first | omega | exact Nat.le_refl _⟩, by repeat (first | exact Drawn0.refl _ | apply Drawn0.step)⟩
                · rw [if_neg c8] at H
                  have c8b0 : decide ((rd l0 x5_1) < 0) = false := decide_eq_false c8
                  clear c8
                  have H' := Aside0.mk H
                  clear H
                  have p343 : 0 ≤ (x5_1 : Int) := of_decide_eq_true (by first | (with_reducible assumption) | assumption)
                  have q343 : x5_1 < (l0.length : Int) := of_decide_eq_true (by first | (with_reducible assumption) | assumption)
                  obtain ⟨ad343, e343, hx343_0⟩ := Kd.at_int HR0.out x5_1 p343 q343
                  cases e343
                  replace p343 := eq_true p343
                  replace q343 := eq_true q343
                  have p344 : 0 ≤ (x5_1 : Int) := of_decide_eq_true (by first | (with_reducible assumption) | assumption)
                  have q344 : x5_1 < (l0.length : Int) := of_decide_eq_true (by first | (with_reducible assumption) | assumption)
                  obtain ⟨ad344, e344, hx344_0⟩ := Kd.at_int HR0.out x5_1 p344 q344
                  obtain rfl : ad343 = ad344 := (by injection e344)
                  replace p344 := eq_true p344
                  replace q344 := eq_true q344
                  go_wp2
                  repeat (go_quiet (fail); try go_wp2)
                  go_meet
                  case rel => exact ⟨_, (decide ((rd l0 x5_1) ≥ a1)), (by first | rfl | (simp; done) | (simp [*]; done)), H', ⟨by have := HK1.out; first | omega | exact Nat.le_refl _⟩, by repeat (first | exact Drawn0.refl _ | apply Drawn0.step)⟩
              · rw [if_neg c7] at H
                exact absurd H (by simp)
            · rw [if_neg c6] at H
              exact absurd H (by simp)
          case rest =>
            clear HC5
            try clear p2
            try clear c3
            try clear c3b0
            try clear c3b1
            try clear p3
            try clear q3
            try clear hx3
            try clear c4
            try clear c4b0
            try clear c6
            try clear c6b0
            try clear c7
            try clear c7b0
            try clear c8
            try clear c8b0
            try clear hx343_0
            try clear hx344_0
            try clear p2
            try clear p343
            try clear p344
            try clear q343
            try clear q344
            obtain ⟨kq, x28_4, rfl, HA, HJ4, ⟨mc4, rfl⟩⟩ := hcut
            cases kq with
            | zero => exact absurd HA.out (by simp [salchowref36_Once.j1])
            | succ kj4 =>
              have H := HA.out
              clear HA
              simp only [salchowref36_Once.j1] at H
              by_cases c9 : x28_4 = true
              · subst c9
                have H1 : (some false) = some r := by rw [if_pos rfl] at H; exact H
                clear H
                have H := H1
                clear H1
                obtain rfl := Option.some.inj H
                go_wp2
                repeat (go_quiet (fail); try go_wp2)
                go_ret
                exact ⟨by first | rfl | (simp; done) | (simp [*]; done), by repeat (first | exact Drawn0.refl _ | apply Drawn0.step)⟩
              · replace c9 := Bool.eq_false_iff.mpr c9
                subst c9
                have H1 : (salchowref36_Once.l1 kj4 l0 a1 x5_1 0) = some r := by rw [if_neg (show ¬ (false = true) by decide)] at H; exact H
                clear H
                have H := H1
                clear H1
                have H' := Aside0.mk H
                clear H
                go_wp2
                repeat (go_quiet (fail); try go_wp2)
                go_loopg [6] kj4 (fun kq v6 w' => ∃ (x6_3 : Int), v6 = .int .i64 x6_3 ∧ Aside0 (salchowref36_Once.l1 kq l0 a1 x5_1 x6_3 = some r) ∧ Aside0 (kq ≤ kj4) ∧ Drawn0 w w')
                case atStart => exact ⟨(0), (by first | rfl | (simp; done) | (simp [*]; done)), H', ⟨Nat.le_refl _⟩, by repeat (first | exact Drawn0.refl _ | apply Drawn0.step)⟩
                case round =>
                  clear H'
                  try clear p2
                  try clear c3
                  try clear c3b0
                  try clear c3b1
                  try clear p3
                  try clear q3
                  try clear hx3
                  try clear c4
                  try clear c4b0
                  try clear c6
                  try clear c6b0
                  try clear c7
                  try clear c7b0
                  try clear c8
                  try clear c8b0
                  try clear c9
                  try clear hx343_0
                  try clear hx344_0
                  try clear p2
                  try clear p3
                  try clear p343
                  try clear p344
                  try clear q3
                  try clear q343
                  try clear q344
                  obtain ⟨x6_3, rfl, HA, HK3, ⟨m3, rfl⟩⟩ := hrel
                  cases gk with
                  | zero => exact absurd HA.out (by simp [salchowref36_Once.l1])
                  | succ k3 =>
                    have H := HA.out
                    clear HA
                    simp only [salchowref36_Once.l1] at H
                    by_cases c10 : x6_3 < x5_1
                    · rw [if_pos c10] at H
                      have c10b0 : decide (x6_3 < x5_1) = true := decide_eq_true c10
                      clear c10
                      by_cases c11 : 0 ≤ x6_3
                      · rw [if_pos c11] at H
                        have c11b0 : decide (0 ≤ x6_3) = true := decide_eq_true c11
                        clear c11
                        by_cases c12 : x6_3 < (l0.length : Int)
                        · rw [if_pos c12] at H
                          have c12b0 : decide (x6_3 < (l0.length : Int)) = true := decide_eq_true c12
                          clear c12
                          by_cases c13 : 0 ≤ x5_1
                          · rw [if_pos c13] at H
                            have c13b0 : decide (0 ≤ x5_1) = true := decide_eq_true c13
                            clear c13
                            by_cases c14 : x5_1 < (l0.length : Int)
                            · rw [if_pos c14] at H
                              have c14b0 : decide (x5_1 < (l0.length : Int)) = true := decide_eq_true c14
                              clear c14
                              by_cases c15 : (rd l0 x6_3) = (rd l0 x5_1)
                              · rw [if_pos c15] at H
                                have c15b0 : ((rd l0 x6_3) == (rd l0 x5_1)) = true := beq_iff_eq.mpr c15
                                have c15b1 : ((rd l0 x6_3) != (rd l0 x5_1)) = false := bne_eq_false_iff_eq.mpr c15
                                clear c15
                                obtain rfl := Option.some.inj H
                                have p345 : 0 ≤ (x6_3 : Int) := of_decide_eq_true (by first | (with_reducible assumption) | assumption)
                                have q345 : x6_3 < (l0.length : Int) := of_decide_eq_true (by first | (with_reducible assumption) | assumption)
                                obtain ⟨ad345, e345, hx345_0⟩ := Kd.at_int HR0.out x6_3 p345 q345
                                cases e345
                                replace p345 := eq_true p345
                                replace q345 := eq_true q345
                                have p346 : 0 ≤ (x5_1 : Int) := of_decide_eq_true (by first | (with_reducible assumption) | assumption)
                                have q346 : x5_1 < (l0.length : Int) := of_decide_eq_true (by first | (with_reducible assumption) | assumption)
                                obtain ⟨ad346, e346, hx346_0⟩ := Kd.at_int HR0.out x5_1 p346 q346
                                obtain rfl : ad345 = ad346 := (by injection e346)
                                replace p346 := eq_true p346
                                replace q346 := eq_true q346
                                go_wp2
                                repeat (go_quiet (fail); try go_wp2)
                                go_ret
                                exact ⟨by first | rfl | (simp; done) | (simp [*]; done), by repeat (first | exact Drawn0.refl _ | apply Drawn0.step)⟩
                              · rw [if_neg c15] at H
                                have c15b0 : ((rd l0 x6_3) == (rd l0 x5_1)) = false := beq_eq_false_iff_ne.mpr c15
                                have c15b1 : ((rd l0 x6_3) != (rd l0 x5_1)) = true := bne_iff_ne.mpr c15
                                have H' := Aside0.mk H
                                clear H
                                have p345 : 0 ≤ (x6_3 : Int) := of_decide_eq_true (by first | (with_reducible assumption) | assumption)
                                have q345 : x6_3 < (l0.length : Int) := of_decide_eq_true (by first | (with_reducible assumption) | assumption)
                                obtain ⟨ad345, e345, hx345_0⟩ := Kd.at_int HR0.out x6_3 p345 q345
                                cases e345
                                replace p345 := eq_true p345
                                replace q345 := eq_true q345
                                have p346 : 0 ≤ (x5_1 : Int) := of_decide_eq_true (by first | (with_reducible assumption) | assumption)
                                have q346 : x5_1 < (l0.length : Int) := of_decide_eq_true (by first | (with_reducible assumption) | assumption)
                                obtain ⟨ad346, e346, hx346_0⟩ := Kd.at_int HR0.out x5_1 p346 q346
                                obtain rfl : ad345 = ad346 := (by injection e346)
                                replace p346 := eq_true p346
                                replace q346 := eq_true q346
                                go_wp2
                                repeat (go_quiet (fail); try go_wp2)
                                go_roundg k3
                                case measure => have := HK1.out; have := HJ4.out; have := HK3.out; omega
                                case rel => exact ⟨(wrap64 (x6_3 + 1)), (by first | rfl | (simp; done) | (simp [*]; done)), H', ⟨by have := HK1.out; have := HJ4.out; have := HK3.out; omega⟩, by repeat (first | exact Drawn0.refl _ | apply Drawn0.step)⟩
                            · rw [if_neg c14] at H
                              exact absurd H (by simp)
                          · rw [if_neg c13] at H
                            exact absurd H (by simp)
                        · rw [if_neg c12] at H
                          exact absurd H (by simp)
                      · rw [if_neg c11] at H
                        exact absurd H (by simp)
                    · rw [if_neg c10] at H
                      have c10b0 : decide (x6_3 < x5_1) = false := decide_eq_false c10
                      clear c10
                      have H' := Aside0.mk H
                      clear H
                      go_wp2
                      repeat (go_quiet (fail); try go_wp2)
                      go_roundg k3
                      case measure => have := HK1.out; have := HJ4.out; have := HK3.out; omega
                      case rel => exact ⟨(wrap64 (x5_1 + 1)), (by first | rfl | (simp; done) | (simp [*]; done)), H', ⟨by have := HK1.out; have := HJ4.out; have := HK3.out; omega⟩, by repeat (first | exact Drawn0.refl _ | apply Drawn0.step)⟩
        · rw [if_neg c4] at H
          have c4b0 : decide (x5_1 < a1) = false := decide_eq_false c4
          clear c4
          obtain rfl := Option.some.inj H
          go_wp2
          repeat (go_quiet (fail); try go_wp2)
          go_ret
          exact ⟨by first | rfl | (simp; done) | (simp [*]; done), by repeat (first | exact Drawn0.refl _ | apply Drawn0.step)⟩
  · rw [if_neg c3] at H
    have c3b0 : ((l0.length : Int) == a1) = false := beq_eq_false_iff_ne.mpr c3
    have c3b1 : ((l0.length : Int) != a1) = true := bne_iff_ne.mpr c3
    obtain rfl := Option.some.inj H
    go_enter Try.func35, Try.ntmps35
    go_wp2
    repeat (go_quiet (fail); try go_wp2)
    go_ret
    exact ⟨by first | rfl | (simp; done) | (simp [*]; done), by repeat (first | exact Drawn0.refl _ | apply Drawn0.step)⟩

end Go.Proofs.Ytaodpgblleiiaaa.P
