-- out of a program (drive.sh), by way of the translation's print
import Derived.Test.YtaodpgblleiiaaaPx0
namespace Go.Proofs.Ytaodpgblleiiaaa.P
open Go.RowKit Go.Proofs.YtaodpgblleiiaaaW.PrintWords Go.Proofs.YtaodpgblleiiaaaW.PrintLast Go.Proofs.YtaodpgblleiiaaaW.PrintMore
attribute [local go_sem] max2_int min2_int max_two min_two max_three min_three max_four min_four   -- for this text's walks alone
set_option linter.unusedVariables false
set_option linter.unusedSimpArgs false

/-! ### salchowref36_Small: function 23 -/
def salchowref36_Small.l0 : Nat → List (List Int) → Int → Option (Bool)
  | 0, _, _ => none
  | k + 1, x0, x3 => if x3 < (x0.length : Int) then (if 0 ≤ x3 then (if ((rd_L1 x0 x3).length : Int) > 14 then (some false) else (salchowref36_Small.l0 k x0 (wrap64 (x3 + 1)))) else (none)) else (some true)
def salchowref36_Small.f (k : Nat) (l0 : List (List Int)) : Option (Bool) := if (l0.length : Int) > 14 then (some false) else (salchowref36_Small.l0 k l0 0)
theorem salchowref36_Small.mono_l : ∀ k, (∀ y0 y1, LeO (salchowref36_Small.l0 k y0 y1) (salchowref36_Small.l0 (k + 1) y0 y1))
  | 0 => fun _ _ r h => by simp [salchowref36_Small.l0] at h
  | k + 1 => by
    have ih0 := salchowref36_Small.mono_l k
    · intro y0 y1
      unfold salchowref36_Small.l0
      repeat' first
      | (with_reducible exact ih0 _ _)
      | (with_reducible exact LeO.refl _)
      | (with_reducible exact LeO.none _)
      | (with_reducible refine LeO.ite ?_ ?_)
      | (with_reducible refine LeO.bind ?_ (fun _ => ?_))
      | exact ih0 _ _
      | exact LeO.none _
      | refine LeO.ite ?_ ?_
      | refine LeO.bind ?_ (fun _ => ?_)
theorem salchowref36_Small.mono : ∀ a0 k, LeO (salchowref36_Small.f k a0) (salchowref36_Small.f (k + 1) a0) := by
  intro a0 k
  have ih0 := salchowref36_Small.mono_l k
  unfold salchowref36_Small.f
  repeat' first
      | (with_reducible exact ih0 _ _)
      | (with_reducible exact LeO.refl _)
      | (with_reducible exact LeO.none _)
      | (with_reducible refine LeO.ite ?_ ?_)
      | (with_reducible refine LeO.bind ?_ (fun _ => ?_))
      | exact ih0 _ _
      | exact LeO.none _
      | refine LeO.ite ?_ ?_
      | refine LeO.bind ?_ (fun _ => ?_)
set_option maxHeartbeats 8000000 in
set_option maxRecDepth 100000 in
theorem salchowref36_Small.calls (k : Nat) (A0 : Option Addr) (c0 : Nat) (l0 : List (List Int)) (r : Bool) (w : World) (hr0 : Kd.C (Kd.slice 3 (Kd.int .i64)) w A0 l0.length l0) (hc0 : l0.length ≤ c0) (h : salchowref36_Small.f k l0 = some r) :
    Calls Try.prog 23 #[.slice A0 l0.length c0] w fun e w' => e = .returned (.bool r) ∧ Drawn0 w w' := by
  have HR0 := Aside0.mk hr0
  have HC0 := Aside0.mk hc0
  clear hr0 hc0
  have H : (if (l0.length : Int) > 14 then (some false) else (salchowref36_Small.l0 k l0 0)) = some r := h
  clear h
  by_cases c2 : (l0.length : Int) > 14
  · rw [if_pos c2] at H
    have c2b0 : decide (14 < (l0.length : Int)) = true := decide_eq_true c2
    have c2b1 : decide (14 < l0.length) = true := decide_eq_true (by omega)
    clear c2
    obtain rfl := Option.some.inj H
    go_enter Try.func23, Try.ntmps23
    go_wp2
    go_ret
    exact ⟨by first | rfl | (simp; done) | (simp [*]; done), by repeat (first | exact Drawn0.refl _ | apply Drawn0.step)⟩
  · rw [if_neg c2] at H
    have c2b0 : decide (14 < (l0.length : Int)) = false := decide_eq_false c2
    have c2b1 : decide (14 < l0.length) = false := decide_eq_false (by omega)
    clear c2
    have H' := Aside0.mk H
    clear H
    go_enter Try.func23, Try.ntmps23
    go_wp2
    go_loopg [3] k (fun kq v3 w' => ∃ (x3_1 : Int), v3 = .int .i64 x3_1 ∧ Aside0 (salchowref36_Small.l0 kq l0 x3_1 = some r) ∧ Aside0 (kq ≤ k) ∧ Drawn0 w w')
    case atStart => exact ⟨(0), (by first | rfl | (simp; done) | (simp [*]; done)), H', ⟨Nat.le_refl _⟩, by repeat (first | exact Drawn0.refl _ | apply Drawn0.step)⟩
    case round =>
      clear H'
      try clear c2
      try clear c2b0
      try clear c2b1
      try clear p2
      obtain ⟨x3_1, rfl, HA, HK1, ⟨m1, rfl⟩⟩ := hrel
      cases gk with
      | zero => exact absurd HA.out (by simp [salchowref36_Small.l0])
      | succ k1 =>
        have H := HA.out
        clear HA
        simp only [salchowref36_Small.l0] at H
        by_cases c3 : x3_1 < (l0.length : Int)
        · rw [if_pos c3] at H
          have c3b0 : decide (x3_1 < (l0.length : Int)) = true := decide_eq_true c3
          clear c3
          by_cases c4 : 0 ≤ x3_1
          · rw [if_pos c4] at H
            have c4b0 : decide (0 ≤ x3_1) = true := decide_eq_true c4
            clear c4
            by_cases c5 : ((rd_L1 l0 x3_1).length : Int) > 14
            · rw [if_pos c5] at H
              have c5b0 : decide (14 < ((rd_L1 l0 x3_1).length : Int)) = true := decide_eq_true c5
              have c5b1 : decide (14 < (rd_L1 l0 x3_1).length) = true := decide_eq_true (by omega)
              clear c5
              obtain rfl := Option.some.inj H
              have p336 : 0 ≤ (x3_1 : Int) := of_decide_eq_true (by first | (with_reducible assumption) | assumption)
              have q336 : x3_1 < (l0.length : Int) := of_decide_eq_true (by first | (with_reducible assumption) | assumption)
              obtain ⟨ad336, A336_0, c336_0, e336, hx336_0, hl336_0, hi336_0⟩ := at_L1 HR0.out x3_1 p336 q336
              cases e336
              have HR336_0 := Aside0.mk hi336_0
              have HC336_0 := Aside0.mk hl336_0
              clear hi336_0 hl336_0
              replace p336 := eq_true p336
              replace q336 := eq_true q336
              go_wp2
              go_ret
              exact ⟨by first | rfl | (simp; done) | (simp [*]; done), by repeat (first | exact Drawn0.refl _ | apply Drawn0.step)⟩
            · rw [if_neg c5] at H
              have c5b0 : decide (14 < ((rd_L1 l0 x3_1).length : Int)) = false := decide_eq_false c5
              have c5b1 : decide (14 < (rd_L1 l0 x3_1).length) = false := decide_eq_false (by omega)
              clear c5
              have H' := Aside0.mk H
              clear H
              have p336 : 0 ≤ (x3_1 : Int) := of_decide_eq_true (by first | (with_reducible assumption) | assumption)
              have q336 : x3_1 < (l0.length : Int) := of_decide_eq_true (by first | (with_reducible assumption) | assumption)
              obtain ⟨ad336, A336_0, c336_0, e336, hx336_0, hl336_0, hi336_0⟩ := at_L1 HR0.out x3_1 p336 q336
              cases e336
              have HR336_0 := Aside0.mk hi336_0
              have HC336_0 := Aside0.mk hl336_0
              clear hi336_0 hl336_0
              replace p336 := eq_true p336
              replace q336 := eq_true q336
              go_wp2
              go_roundg k1
              case measure => have := HK1.out; omega
              case rel => exact ⟨(wrap64 (x3_1 + 1)), (by first | rfl | (simp; done) | (simp [*]; done)), H', ⟨by have := HK1.out; omega⟩, by repeat (first | exact Drawn0.refl _ | apply Drawn0.step)⟩
          · rw [if_neg c4] at H
            exact absurd H (by simp)
        · rw [if_neg c3] at H
          have c3b0 : decide (x3_1 < (l0.length : Int)) = false := decide_eq_false c3
          clear c3
          obtain rfl := Option.some.inj H
          go_wp2
          go_ret
          exact ⟨by first | rfl | (simp; done) | (simp [*]; done), by repeat (first | exact Drawn0.refl _ | apply Drawn0.step)⟩

/-! ### salchowref36_Once: function 35 -/
mutual
def salchowref36_Once.l0 : Nat → List Int → Int → Int → Option (Bool)
  | 0, _, _, _ => none
  | k + 1, x0, x1, x5 => if x5 < x1 then (if 0 ≤ x5 then (if x5 < (x0.length : Int) then (if (rd x0 x5) < 0 then (salchowref36_Once.j1 k x0 x1 x5 true) else (salchowref36_Once.j1 k x0 x1 x5 (decide ((rd x0 x5) ≥ x1)))) else (none)) else (none)) else (some true)
def salchowref36_Once.j1 : Nat → List Int → Int → Int → Bool → Option (Bool)
  | 0, _, _, _, _ => none
  | k + 1, x0, x1, x5, x28 => if x28 = true then (some false) else (salchowref36_Once.l1 k x0 x1 x5 0)
def salchowref36_Once.l1 : Nat → List Int → Int → Int → Int → Option (Bool)
  | 0, _, _, _, _ => none
  | k + 1, x0, x1, x5, x6 => if x6 < x5 then (if 0 ≤ x6 then (if x6 < (x0.length : Int) then (if 0 ≤ x5 then (if x5 < (x0.length : Int) then (if (rd x0 x6) = (rd x0 x5) then (some false) else (salchowref36_Once.l1 k x0 x1 x5 (wrap64 (x6 + 1)))) else (none)) else (none)) else (none)) else (none)) else (salchowref36_Once.l0 k x0 x1 (wrap64 (x5 + 1)))
end
def salchowref36_Once.f (k : Nat) (l0 : List Int) (a1 : Int) : Option (Bool) := if (l0.length : Int) = a1 then (salchowref36_Once.l0 k l0 a1 0) else (some false)
theorem salchowref36_Once.mono_l : ∀ k, (∀ y0 y1 y2, LeO (salchowref36_Once.l0 k y0 y1 y2) (salchowref36_Once.l0 (k + 1) y0 y1 y2)) ∧ (∀ y0 y1 y2 y3, LeO (salchowref36_Once.j1 k y0 y1 y2 y3) (salchowref36_Once.j1 (k + 1) y0 y1 y2 y3)) ∧ (∀ y0 y1 y2 y3, LeO (salchowref36_Once.l1 k y0 y1 y2 y3) (salchowref36_Once.l1 (k + 1) y0 y1 y2 y3))
  | 0 => ⟨fun _ _ _ r h => by simp [salchowref36_Once.l0] at h, fun _ _ _ _ r h => by simp [salchowref36_Once.j1] at h, fun _ _ _ _ r h => by simp [salchowref36_Once.l1] at h⟩
  | k + 1 => by
    obtain ⟨ih0, ih1, ih2⟩ := salchowref36_Once.mono_l k
    refine ⟨?_, ?_, ?_⟩
    · intro y0 y1 y2
      unfold salchowref36_Once.l0
      repeat' first
      | (with_reducible exact ih0 _ _ _)
      | (with_reducible exact ih1 _ _ _ _)
      | (with_reducible exact ih2 _ _ _ _)
      | (with_reducible exact LeO.refl _)
      | (with_reducible exact LeO.none _)
      | (with_reducible refine LeO.ite ?_ ?_)
      | (with_reducible refine LeO.bind ?_ (fun _ => ?_))
      | exact ih0 _ _ _
      | exact ih1 _ _ _ _
      | exact ih2 _ _ _ _
      | exact LeO.none _
      | refine LeO.ite ?_ ?_
      | refine LeO.bind ?_ (fun _ => ?_)
    · intro y0 y1 y2 y3
      unfold salchowref36_Once.j1
      repeat' first
      | (with_reducible exact ih0 _ _ _)
      | (with_reducible exact ih1 _ _ _ _)
      | (with_reducible exact ih2 _ _ _ _)
      | (with_reducible exact LeO.refl _)
      | (with_reducible exact LeO.none _)
      | (with_reducible refine LeO.ite ?_ ?_)
      | (with_reducible refine LeO.bind ?_ (fun _ => ?_))
      | exact ih0 _ _ _
      | exact ih1 _ _ _ _
      | exact ih2 _ _ _ _
      | exact LeO.none _
      | refine LeO.ite ?_ ?_
      | refine LeO.bind ?_ (fun _ => ?_)
    · intro y0 y1 y2 y3
      unfold salchowref36_Once.l1
      repeat' first
      | (with_reducible exact ih0 _ _ _)
      | (with_reducible exact ih1 _ _ _ _)
      | (with_reducible exact ih2 _ _ _ _)
      | (with_reducible exact LeO.refl _)
      | (with_reducible exact LeO.none _)
      | (with_reducible refine LeO.ite ?_ ?_)
      | (with_reducible refine LeO.bind ?_ (fun _ => ?_))
      | exact ih0 _ _ _
      | exact ih1 _ _ _ _
      | exact ih2 _ _ _ _
      | exact LeO.none _
      | refine LeO.ite ?_ ?_
      | refine LeO.bind ?_ (fun _ => ?_)
theorem salchowref36_Once.mono : ∀ a0 a1 k, LeO (salchowref36_Once.f k a0 a1) (salchowref36_Once.f (k + 1) a0 a1) := by
  intro a0 a1 k
  obtain ⟨ih0, ih1, ih2⟩ := salchowref36_Once.mono_l k
  unfold salchowref36_Once.f
  repeat' first
      | (with_reducible exact ih0 _ _ _)
      | (with_reducible exact ih1 _ _ _ _)
      | (with_reducible exact ih2 _ _ _ _)
      | (with_reducible exact LeO.refl _)
      | (with_reducible exact LeO.none _)
      | (with_reducible refine LeO.ite ?_ ?_)
      | (with_reducible refine LeO.bind ?_ (fun _ => ?_))
      | exact ih0 _ _ _
      | exact ih1 _ _ _ _
      | exact ih2 _ _ _ _
      | exact LeO.none _
      | refine LeO.ite ?_ ?_
      | refine LeO.bind ?_ (fun _ => ?_)
set_option maxHeartbeats 8000000 in
set_option maxRecDepth 100000 in
theorem salchowref36_Once.calls (k : Nat) (A0 : Option Addr) (c0 : Nat) (l0 : List Int) (a1 : Int) (r : Bool) (w : World) (hr0 : Kd.C (Kd.int .i64) w A0 l0.length l0) (hc0 : l0.length ≤ c0) (h : salchowref36_Once.f k l0 a1 = some r) :
    Calls Try.prog 35 #[.slice A0 l0.length c0, .int .i64 a1] w fun e w' => e = .returned (.bool r) ∧ Drawn0 w w' := by
  have HR0 := Aside0.mk hr0
  have HC0 := Aside0.mk hc0
  clear hr0 hc0
  have H : (if (l0.length : Int) = a1 then (salchowref36_Once.l0 k l0 a1 0) else (some false)) = some r := h
  clear h
  by_cases c3 : (l0.length : Int) = a1
  · rw [if_pos c3] at H
    have c3b0 : ((l0.length : Int) == a1) = true := beq_iff_eq.mpr c3
    have c3b1 : ((l0.length : Int) != a1) = false := bne_eq_false_iff_eq.mpr c3
    clear c3
    have H' := Aside0.mk H
    clear H
    go_enter Try.func35, Try.ntmps35
    go_wp2
    repeat (go_quiet (fail); try go_wp2)
    go_loopg [5] k (fun kq v5 w' => ∃ (x5_1 : Int), v5 = .int .i64 x5_1 ∧ Aside0 (salchowref36_Once.l0 kq l0 a1 x5_1 = some r) ∧ Aside0 (kq ≤ k) ∧ Drawn0 w w')
    case atStart => exact ⟨(0), (by first | rfl | (simp; done) | (simp [*]; done)), H', ⟨Nat.le_refl _⟩, by repeat (first | exact Drawn0.refl _ | apply Drawn0.step)⟩
    case round =>
      clear H'
      try clear p2
      try clear c3
      try clear c3b0
      try clear c3b1
      obtain ⟨x5_1, rfl, HA, HK1, ⟨m1, rfl⟩⟩ := hrel
      cases gk with
      | zero => exact absurd HA.out (by simp [salchowref36_Once.l0])
      | succ k1 =>
        have H := HA.out
        clear HA
        simp only [salchowref36_Once.l0] at H
        by_cases c4 : x5_1 < a1
        · rw [if_pos c4] at H
          have c4b0 : decide (x5_1 < a1) = true := decide_eq_true c4
          clear c4
          have HC5 := Aside0.mk H
          clear H
          go_upto_region 6 with (fail)
          repeat (go_quiet (fail); go_upto_region 6 with (fail))
          go_cut [28] (fun v28 wc => ∃ (kq : Nat) (x28_4 : Bool), v28 = .bool x28_4 ∧ Aside0 (salchowref36_Once.j1 kq l0 a1 x5_1 x28_4 = some r) ∧ Aside0 (kq ≤ k1) ∧ Drawn0 w wc)
          case first =>
            have H := HC5.out
            clear HC5
            by_cases c6 : 0 ≤ x5_1
            · rw [if_pos c6] at H
              have c6b0 : decide (0 ≤ x5_1) = true := decide_eq_true c6
              clear c6
              (first | rw [c6b0] | (simp only [i64_w, i32_w]; rw [c6b0]) | skip)
              by_cases c7 : x5_1 < (l0.length : Int)
              · rw [if_pos c7] at H
                have c7b0 : decide (x5_1 < (l0.length : Int)) = true := decide_eq_true c7
                clear c7
                by_cases c8 : (rd l0 x5_1) < 0
                · rw [if_pos c8] at H
                  have c8b0 : decide ((rd l0 x5_1) < 0) = true := decide_eq_true c8
                  clear c8
                  have H' := Aside0.mk H
                  clear H
                  have p337 : 0 ≤ (x5_1 : Int) := of_decide_eq_true (by first | (with_reducible assumption) | assumption)
                  have q337 : x5_1 < (l0.length : Int) := of_decide_eq_true (by first | (with_reducible assumption) | assumption)
                  obtain ⟨ad337, e337, hx337_0⟩ := Kd.at_int HR0.out x5_1 p337 q337
                  cases e337
                  replace p337 := eq_true p337
                  replace q337 := eq_true q337
                  go_wp2
                  repeat (go_quiet (fail); try go_wp2)
                  go_meet
                  case rel => exact ⟨_, (true), (by first | rfl | (simp; done) | (simp [*]; done)), H', ⟨by have := HK1.out; first | omega | exact Nat.le_refl _⟩, by repeat (first | exact Drawn0.refl _ | apply Drawn0.step)⟩
                · rw [if_neg c8] at H
                  have c8b0 : decide ((rd l0 x5_1) < 0) = false := decide_eq_false c8
                  clear c8
                  have H' := Aside0.mk H
                  clear H
                  have p337 : 0 ≤ (x5_1 : Int) := of_decide_eq_true (by first | (with_reducible assumption) | assumption)
                  have q337 : x5_1 < (l0.length : Int) := of_decide_eq_true (by first | (with_reducible assumption) | assumption)
                  obtain ⟨ad337, e337, hx337_0⟩ := Kd.at_int HR0.out x5_1 p337 q337
                  cases e337
                  replace p337 := eq_true p337
                  replace q337 := eq_true q337
                  have p338 : 0 ≤ (x5_1 : Int) := of_decide_eq_true (by first | (with_reducible assumption) | assumption)
                  have q338 : x5_1 < (l0.length : Int) := of_decide_eq_true (by first | (with_reducible assumption) | assumption)
                  obtain ⟨ad338, e338, hx338_0⟩ := Kd.at_int HR0.out x5_1 p338 q338
                  obtain rfl : ad337 = ad338 := (by injection e338)
                  replace p338 := eq_true p338
                  replace q338 := eq_true q338
                  go_wp2
                  repeat (go_quiet (fail); try go_wp2)
                  go_meet
                  case rel => exact ⟨_, (decide ((rd l0 x5_1) ≥ a1)), (by first | rfl | (simp; done) | (simp [*]; done)), H', ⟨by have := HK1.out; first | omega | exact Nat.le_refl _⟩, by repeat (first | exact Drawn0.refl _ | apply Drawn0.step)⟩
              · rw [if_neg c7] at H
                exact absurd H (by simp)
            · rw [if_neg c6] at H
              exact absurd H (by simp)
          case rest =>
            clear HC5
            try clear p2
            try clear c3
            try clear c3b0
            try clear c3b1
            try clear p3
            try clear q3
            try clear hx3
            try clear c4
            try clear c4b0
            try clear c6
            try clear c6b0
            try clear c7
            try clear c7b0
            try clear c8
            try clear c8b0
            try clear hx337_0
            try clear hx338_0
            try clear p2
            try clear p337
            try clear p338
            try clear q337
            try clear q338
            obtain ⟨kq, x28_4, rfl, HA, HJ4, ⟨mc4, rfl⟩⟩ := hcut
            cases kq with
            | zero => exact absurd HA.out (by simp [salchowref36_Once.j1])
            | succ kj4 =>
              have H := HA.out
              clear HA
              simp only [salchowref36_Once.j1] at H
              by_cases c9 : x28_4 = true
              · subst c9
                have H1 : (some false) = some r := by rw [if_pos rfl] at H; exact H
                clear H
                have H := H1
                clear H1
                obtain rfl := Option.some.inj H
                go_wp2
                repeat (go_quiet (fail); try go_wp2)
                go_ret
                exact ⟨by first | rfl | (simp; done) | (simp [*]; done), by repeat (first | exact Drawn0.refl _ | apply Drawn0.step)⟩
              · replace c9 := Bool.eq_false_iff.mpr c9
                subst c9
                have H1 : (salchowref36_Once.l1 kj4 l0 a1 x5_1 0) = some r := by rw [if_neg (show ¬ (false = true) by decide)] at H; exact H
                clear H
                have H := H1
                clear H1
                have H' := Aside0.mk H
                clear H
                go_wp2
                repeat (go_quiet (fail); try go_wp2)
                go_loopg [6] kj4 (fun kq v6 w' => ∃ (x6_3 : Int), v6 = .int .i64 x6_3 ∧ Aside0 (salchowref36_Once.l1 kq l0 a1 x5_1 x6_3 = some r) ∧ Aside0 (kq ≤ kj4) ∧ Drawn0 w w')
                case atStart => exact ⟨(0), (by first | rfl | (simp; done) | (simp [*]; done)), H', ⟨Nat.le_refl _⟩, by repeat (first | exact Drawn0.refl _ | apply Drawn0.step)⟩
                case round =>
                  clear H'
                  try clear p2
                  try clear c3
                  try clear c3b0
                  try clear c3b1
                  try clear p3
                  try clear q3
                  try clear hx3
                  try clear c4
                  try clear c4b0
                  try clear c6
                  try clear c6b0
                  try clear c7
                  try clear c7b0
                  try clear c8
                  try clear c8b0
                  try clear c9
                  try clear hx337_0
                  try clear hx338_0
                  try clear p2
                  try clear p3
                  try clear p337
                  try clear p338
                  try clear q3
                  try clear q337
                  try clear q338
                  obtain ⟨x6_3, rfl, HA, HK3, ⟨m3, rfl⟩⟩ := hrel
                  cases gk with
                  | zero => exact absurd HA.out (by simp [salchowref36_Once.l1])
                  | succ k3 =>
                    have H := HA.out
                    clear HA
                    simp only [salchowref36_Once.l1] at H
                    by_cases c10 : x6_3 < x5_1
                    · rw [if_pos c10] at H
                      have c10b0 : decide (x6_3 < x5_1) = true := decide_eq_true c10
                      clear c10
                      by_cases c11 : 0 ≤ x6_3
                      · rw [if_pos c11] at H
                        have c11b0 : decide (0 ≤ x6_3) = true := decide_eq_true c11
                        clear c11
                        by_cases c12 : x6_3 < (l0.length : Int)
                        · rw [if_pos c12] at H
                          have c12b0 : decide (x6_3 < (l0.length : Int)) = true := decide_eq_true c12
                          clear c12
                          by_cases c13 : 0 ≤ x5_1
                          · rw [if_pos c13] at H
                            have c13b0 : decide (0 ≤ x5_1) = true := decide_eq_true c13
                            clear c13
                            by_cases c14 : x5_1 < (l0.length : Int)
                            · rw [if_pos c14] at H
                              have c14b0 : decide (x5_1 < (l0.length : Int)) = true := decide_eq_true c14
                              clear c14
                              by_cases c15 : (rd l0 x6_3) = (rd l0 x5_1)
                              · rw [if_pos c15] at H
                                have c15b0 : ((rd l0 x6_3) == (rd l0 x5_1)) = true := beq_iff_eq.mpr c15
                                have c15b1 : ((rd l0 x6_3) != (rd l0 x5_1)) = false := bne_eq_false_iff_eq.mpr c15
                                clear c15
                                obtain rfl := Option.some.inj H
                                have p339 : 0 ≤ (x6_3 : Int) := of_decide_eq_true (by first | (with_reducible assumption) | assumption)
                                have q339 : x6_3 < (l0.length : Int) := of_decide_eq_true (by first | (with_reducible assumption) | assumption)
                                obtain ⟨ad339, e339, hx339_0⟩ := Kd.at_int HR0.out x6_3 p339 q339
                                cases e339
                                replace p339 := eq_true p339
                                replace q339 := eq_true q339
                                have p340 : 0 ≤ (x5_1 : Int) := of_decide_eq_true (by first | (with_reducible assumption) | assumption)
                                have q340 : x5_1 < (l0.length : Int) := of_decide_eq_true (by first | (with_reducible assumption) | assumption)
                                obtain ⟨ad340, e340, hx340_0⟩ := Kd.at_int HR0.out x5_1 p340 q340
                                obtain rfl : ad339 = ad340 := (by injection e340)
                                replace p340 := eq_true p340
                                replace q340 := eq_true q340
                                go_wp2
                                repeat (go_quiet (fail); try go_wp2)
                                go_ret
                                exact ⟨by first | rfl | (simp; done) | (simp [*]; done), by repeat (first | exact Drawn0.refl _ | apply Drawn0.step)⟩
                              · rw [if_neg c15] at H
                                have c15b0 : ((rd l0 x6_3) == (rd l0 x5_1)) = false := beq_eq_false_iff_ne.mpr c15
                                have c15b1 : ((rd l0 x6_3) != (rd l0 x5_1)) = true := bne_iff_ne.mpr c15
                                have H' := Aside0.mk H
                                clear H
                                have p339 : 0 ≤ (x6_3 : Int) := of_decide_eq_true (by first | (with_reducible assumption) | assumption)
                                have q339 : x6_3 < (l0.length : Int) := of_decide_eq_true (by first | (with_reducible assumption) | assumption)
                                obtain ⟨ad339, e339, hx339_0⟩ := Kd.at_int HR0.out x6_3 p339 q339
                                cases e339
                                replace p339 := eq_true p339
                                replace q339 := eq_true q339
                                have p340 : 0 ≤ (x5_1 : Int) := of_decide_eq_true (by first | (with_reducible assumption) | assumption)
                                have q340 : x5_1 < (l0.length : Int) := of_decide_eq_true (by first | (with_reducible assumption) | assumption)
                                obtain ⟨ad340, e340, hx340_0⟩ := Kd.at_int HR0.out x5_1 p340 q340
                                obtain rfl : ad339 = ad340 := (by injection e340)
                                replace p340 := eq_true p340
                                replace q340 := eq_true q340
                                go_wp2
                                repeat (go_quiet (fail); try go_wp2)
                                go_roundg k3
                                case measure => have := HK1.out; have := HJ4.out; have := HK3.out; omega
                                case rel => exact ⟨(wrap64 (x6_3 + 1)), (by first | rfl | (simp; done) | (simp [*]; done)), H', ⟨by have := HK1.out; have := HJ4.out; have := HK3.out; omega⟩, by repeat (first | exact Drawn0.refl _ | apply Drawn0.step)⟩
                            · rw [if_neg c14] at H
                              exact absurd H (by simp)
                          · rw [if_neg c13] at H
                            exact absurd H (by simp)
                        · rw [if_neg c12] at H
                          exact absurd H (by simp)
                      · rw [if_neg c11] at H
                        exact absurd H (by simp)
                    · rw [if_neg c10] at H
                      have c10b0 : decide (x6_3 < x5_1) = false := decide_eq_false c10
                      clear c10
                      have H' := Aside0.mk H
                      clear H
                      go_wp2
                      repeat (go_quiet (fail); try go_wp2)
                      go_roundg k3
                      case measure => have := HK1.out; have := HJ4.out; have := HK3.out; omega
                      case rel => exact ⟨(wrap64 (x5_1 + 1)), (by first | rfl | (simp; done) | (simp [*]; done)), H', ⟨by have := HK1.out; have := HJ4.out; have := HK3.out; omega⟩, by repeat (first | exact Drawn0.refl _ | apply Drawn0.step)⟩
        · rw [if_neg c4] at H
          have c4b0 : decide (x5_1 < a1) = false := decide_eq_false c4
          clear c4
          obtain rfl := Option.some.inj H
          go_wp2
          repeat (go_quiet (fail); try go_wp2)
          go_ret
          exact ⟨by first | rfl | (simp; done) | (simp [*]; done), by repeat (first | exact Drawn0.refl _ | apply Drawn0.step)⟩
  · rw [if_neg c3] at H
    have c3b0 : ((l0.length : Int) == a1) = false := beq_eq_false_iff_ne.mpr c3
    have c3b1 : ((l0.length : Int) != a1) = true := bne_iff_ne.mpr c3
    obtain rfl := Option.some.inj H
    go_enter Try.func35, Try.ntmps35
    go_wp2
    repeat (go_quiet (fail); try go_wp2)
    go_ret
    exact ⟨by first | rfl | (simp; done) | (simp [*]; done), by repeat (first | exact Drawn0.refl _ | apply Drawn0.step)⟩

/-! ### salchowref36_Ordered: function 24 -/
mutual
def salchowref36_Ordered.j0 : Nat → List (List Int) → Bool → Option (Bool)
  | 0, _, _ => none
  | k + 1, x0, x13 => if x13 = true then (some false) else (salchowref36_Ordered.l0 k x0 0)
def salchowref36_Ordered.l0 : Nat → List (List Int) → Int → Option (Bool)
  | 0, _, _ => none
  | k + 1, x0, x3 => if x3 < (x0.length : Int) then (if 0 ≤ x3 then (if 0 < (x0.length : Int) then ((salchowref36_Once.f k (rd_L1 x0 x3) ((rd_L1 x0 0).length : Int)).bind fun t344 => (if t344 = true then (salchowref36_Ordered.l0 k x0 (wrap64 (x3 + 1))) else (some false))) else (none)) else (none)) else (some true)
end
def salchowref36_Ordered.f (k : Nat) (l0 : List (List Int)) : Option (Bool) := if (l0.length : Int) = 0 then (salchowref36_Ordered.j0 k l0 true) else (if 0 < (l0.length : Int) then (salchowref36_Ordered.j0 k l0 (((rd_L1 l0 0).length : Int) == 0)) else (none))
theorem salchowref36_Ordered.mono_l : ∀ k, (∀ y0 y1, LeO (salchowref36_Ordered.j0 k y0 y1) (salchowref36_Ordered.j0 (k + 1) y0 y1)) ∧ (∀ y0 y1, LeO (salchowref36_Ordered.l0 k y0 y1) (salchowref36_Ordered.l0 (k + 1) y0 y1))
  | 0 => ⟨fun _ _ r h => by simp [salchowref36_Ordered.j0] at h, fun _ _ r h => by simp [salchowref36_Ordered.l0] at h⟩
  | k + 1 => by
    obtain ⟨ih0, ih1⟩ := salchowref36_Ordered.mono_l k
    refine ⟨?_, ?_⟩
    · intro y0 y1
      unfold salchowref36_Ordered.j0
      repeat' first
      | (with_reducible exact ih0 _ _)
      | (with_reducible exact ih1 _ _)
      | (with_reducible exact salchowref36_Once.mono _ _ _)
      | (with_reducible exact LeO.refl _)
      | (with_reducible exact LeO.none _)
      | (with_reducible refine LeO.ite ?_ ?_)
      | (with_reducible refine LeO.bind ?_ (fun _ => ?_))
      | exact ih0 _ _
      | exact ih1 _ _
      | exact salchowref36_Once.mono _ _ _
      | exact LeO.none _
      | refine LeO.ite ?_ ?_
      | refine LeO.bind ?_ (fun _ => ?_)
    · intro y0 y1
      unfold salchowref36_Ordered.l0
      repeat' first
      | (with_reducible exact ih0 _ _)
      | (with_reducible exact ih1 _ _)
      | (with_reducible exact salchowref36_Once.mono _ _ _)
      | (with_reducible exact LeO.refl _)
      | (with_reducible exact LeO.none _)
      | (with_reducible refine LeO.ite ?_ ?_)
      | (with_reducible refine LeO.bind ?_ (fun _ => ?_))
      | exact ih0 _ _
      | exact ih1 _ _
      | exact salchowref36_Once.mono _ _ _
      | exact LeO.none _
      | refine LeO.ite ?_ ?_
      | refine LeO.bind ?_ (fun _ => ?_)
theorem salchowref36_Ordered.mono : ∀ a0 k, LeO (salchowref36_Ordered.f k a0) (salchowref36_Ordered.f (k + 1) a0) := by
  intro a0 k
  obtain ⟨ih0, ih1⟩ := salchowref36_Ordered.mono_l k
  unfold salchowref36_Ordered.f
  repeat' first
      | (with_reducible exact ih0 _ _)
      | (with_reducible exact ih1 _ _)
      | (with_reducible exact salchowref36_Once.mono _ _ _)
      | (with_reducible exact LeO.refl _)
      | (with_reducible exact LeO.none _)
      | (with_reducible refine LeO.ite ?_ ?_)
      | (with_reducible refine LeO.bind ?_ (fun _ => ?_))
      | exact ih0 _ _
      | exact ih1 _ _
      | exact salchowref36_Once.mono _ _ _
      | exact LeO.none _
      | refine LeO.ite ?_ ?_
      | refine LeO.bind ?_ (fun _ => ?_)
set_option maxHeartbeats 8000000 in
set_option maxRecDepth 100000 in
theorem salchowref36_Ordered.calls (k : Nat) (A0 : Option Addr) (c0 : Nat) (l0 : List (List Int)) (r : Bool) (w : World) (hr0 : Kd.C (Kd.slice 3 (Kd.int .i64)) w A0 l0.length l0) (hc0 : l0.length ≤ c0) (h : salchowref36_Ordered.f k l0 = some r) :
    Calls Try.prog 24 #[.slice A0 l0.length c0] w fun e w' => e = .returned (.bool r) ∧ Drawn0 w w' := by
  have HR0 := Aside0.mk hr0
  have HC0 := Aside0.mk hc0
  clear hr0 hc0
  have H : (if (l0.length : Int) = 0 then (salchowref36_Ordered.j0 k l0 true) else (if 0 < (l0.length : Int) then (salchowref36_Ordered.j0 k l0 (((rd_L1 l0 0).length : Int) == 0)) else (none))) = some r := h
  clear h
  have HC2 := Aside0.mk H
  clear H
  go_enter Try.func24, Try.ntmps24
  go_upto_region 1 with (fail)
  repeat (go_quiet (fail); go_upto_region 1 with (fail))
  go_cut [13] (fun v13 wc => ∃ (kq : Nat) (x13_1 : Bool), v13 = .bool x13_1 ∧ Aside0 (salchowref36_Ordered.j0 kq l0 x13_1 = some r) ∧ Aside0 (kq ≤ k) ∧ Drawn0 w wc)
  case first =>
    have H := HC2.out
    clear HC2
    by_cases c3 : (l0.length : Int) = 0
    · rw [if_pos c3] at H
      have c3b0 : ((l0.length : Int) == 0) = true := beq_iff_eq.mpr c3
      have c3b1 : ((l0.length : Int) != 0) = false := bne_eq_false_iff_eq.mpr c3
      clear c3
      (first | rw [c3b0] | (simp only [i64_w, i32_w]; rw [c3b0]) | skip)
      have H' := Aside0.mk H
      clear H
      go_wp2
      repeat (go_quiet (fail); try go_wp2)
      go_meet
      case rel => exact ⟨_, (true), (by first | rfl | (simp; done) | (simp [*]; done)), H', ⟨by first | omega | exact Nat.le_refl _⟩, by repeat (first | exact Drawn0.refl _ | apply Drawn0.step)⟩
    · rw [if_neg c3] at H
      have c3b0 : ((l0.length : Int) == 0) = false := beq_eq_false_iff_ne.mpr c3
      have c3b1 : ((l0.length : Int) != 0) = true := bne_iff_ne.mpr c3
      have c3b2 : ¬ (l0 = []) := fun h_ => c3 (by rw [h_]; rfl)
      (first | rw [c3b0] | (simp only [i64_w, i32_w]; rw [c3b0]) | skip)
      by_cases c4 : 0 < (l0.length : Int)
      · rw [if_pos c4] at H
        have c4b0 : decide (0 < (l0.length : Int)) = true := decide_eq_true c4
        have c4b1 : decide (0 < l0.length) = true := decide_eq_true (by omega)
        clear c4
        have H' := Aside0.mk H
        clear H
        have p341 : 0 ≤ (0 : Int) := (by omega)
        have q341 : 0 < (l0.length : Int) := of_decide_eq_true (by first | (with_reducible assumption) | assumption)
        obtain ⟨ad341, A341_0, c341_0, e341, hx341_0, hl341_0, hi341_0⟩ := at_L1 HR0.out 0 p341 q341
        cases e341
        have qi341 : (0 < l0.length) = True := eq_true (by omega)
        (try rw [show ((0 : Int)).toNat = 0 from rfl] at hx341_0)
        (try rw [Addr.add_zero'] at hx341_0)
        have HR341_0 := Aside0.mk hi341_0
        have HC341_0 := Aside0.mk hl341_0
        clear hi341_0 hl341_0
        replace p341 := eq_true p341
        replace q341 := eq_true q341
        go_wp2
        repeat (go_quiet (fail); try go_wp2)
        go_meet
        case rel => exact ⟨_, ((((rd_L1 l0 0).length : Int) == 0)), (by first | rfl | (simp; done) | (simp [*]; done)), H', ⟨by first | omega | exact Nat.le_refl _⟩, by repeat (first | exact Drawn0.refl _ | apply Drawn0.step)⟩
      · rw [if_neg c4] at H
        exact absurd H (by simp)
  case rest =>
    clear HC2
    try clear c2
    try clear p2
    try clear c3
    try clear c3b0
    try clear c3b1
    try clear c3b2
    try clear p3
    try clear q3
    try clear hx3
    try clear qi3
    try clear c4
    try clear c4b0
    try clear c4b1
    try clear hx341_0
    try clear p341
    try clear q341
    obtain ⟨kq, x13_1, rfl, HA, HJ1, ⟨mc1, rfl⟩⟩ := hcut
    cases kq with
    | zero => exact absurd HA.out (by simp [salchowref36_Ordered.j0])
    | succ kj1 =>
      have H := HA.out
      clear HA
      simp only [salchowref36_Ordered.j0] at H
      by_cases c5 : x13_1 = true
      · subst c5
        have H1 : (some false) = some r := by rw [if_pos rfl] at H; exact H
        clear H
        have H := H1
        clear H1
        obtain rfl := Option.some.inj H
        go_wp2
        repeat (go_quiet (fail); try go_wp2)
        go_ret
        exact ⟨by first | rfl | (simp; done) | (simp [*]; done), by repeat (first | exact Drawn0.refl _ | apply Drawn0.step)⟩
      · replace c5 := Bool.eq_false_iff.mpr c5
        subst c5
        have H1 : (salchowref36_Ordered.l0 kj1 l0 0) = some r := by rw [if_neg (show ¬ (false = true) by decide)] at H; exact H
        clear H
        have H := H1
        clear H1
        have H' := Aside0.mk H
        clear H
        go_wp2
        repeat (go_quiet (fail); try go_wp2)
        go_loopg [3] kj1 (fun kq v3 w' => ∃ (x3_2 : Int), v3 = .int .i64 x3_2 ∧ Aside0 (salchowref36_Ordered.l0 kq l0 x3_2 = some r) ∧ Aside0 (kq ≤ kj1) ∧ Drawn0 w w')
        case atStart => exact ⟨(0), (by first | rfl | (simp; done) | (simp [*]; done)), H', ⟨Nat.le_refl _⟩, by repeat (first | exact Drawn0.refl _ | apply Drawn0.step)⟩
        case round =>
          clear H'
          try clear c1
          try clear c2
          try clear p2
          try clear c3
          try clear c3b0
          try clear c3b1
          try clear c3b2
          try clear p3
          try clear q3
          try clear hx3
          try clear qi3
          try clear c4
          try clear c4b0
          try clear c4b1
          try clear c5
          try clear hx341_0
          try clear p2
          try clear p3
          try clear p341
          try clear q3
          try clear q341
          obtain ⟨x3_2, rfl, HA, HK2, ⟨m2, rfl⟩⟩ := hrel
          cases gk with
          | zero => exact absurd HA.out (by simp [salchowref36_Ordered.l0])
          | succ k2 =>
            have H := HA.out
            clear HA
            simp only [salchowref36_Ordered.l0] at H
            by_cases c6 : x3_2 < (l0.length : Int)
            · rw [if_pos c6] at H
              have c6b0 : decide (x3_2 < (l0.length : Int)) = true := decide_eq_true c6
              clear c6
              by_cases c7 : 0 ≤ x3_2
              · rw [if_pos c7] at H
                have c7b0 : decide (0 ≤ x3_2) = true := decide_eq_true c7
                clear c7
                by_cases c8 : 0 < (l0.length : Int)
                · rw [if_pos c8] at H
                  have c8b0 : decide (0 < (l0.length : Int)) = true := decide_eq_true c8
                  have c8b1 : decide (0 < l0.length) = true := decide_eq_true (by omega)
                  clear c8
                  replace H := Option.bind_eq_some_iff.mp H
                  obtain ⟨t344, A90, H⟩ := H
                  replace H : (if t344 = true then (salchowref36_Ordered.l0 k2 l0 (wrap64 (x3_2 + 1))) else (some false)) = some r := H
                  have A9 := Aside0.mk A90
                  clear A90
                  by_cases c10 : t344 = true
                  · subst c10
                    have H1 : (salchowref36_Ordered.l0 k2 l0 (wrap64 (x3_2 + 1))) = some r := by rw [if_pos rfl] at H; exact H
                    clear H
                    have H := H1
                    clear H1
                    have H' := Aside0.mk H
                    clear H
                    have p342 : 0 ≤ (x3_2 : Int) := of_decide_eq_true (by first | (with_reducible assumption) | assumption)
                    have q342 : x3_2 < (l0.length : Int) := of_decide_eq_true (by first | (with_reducible assumption) | assumption)
                    obtain ⟨ad342, A342_0, c342_0, e342, hx342_0, hl342_0, hi342_0⟩ := at_L1 HR0.out x3_2 p342 q342
                    cases e342
                    have HR342_0 := Aside0.mk hi342_0
                    have HC342_0 := Aside0.mk hl342_0
                    clear hi342_0 hl342_0
                    replace p342 := eq_true p342
                    replace q342 := eq_true q342
                    have p343 : 0 ≤ (0 : Int) := (by omega)
                    have q343 : 0 < (l0.length : Int) := of_decide_eq_true (by first | (with_reducible assumption) | assumption)
                    obtain ⟨ad343, A343_0, c343_0, e343, hx343_0, hl343_0, hi343_0⟩ := at_L1 HR0.out 0 p343 q343
                    obtain rfl : ad342 = ad343 := (by injection e343)
                    have qi343 : (0 < l0.length) = True := eq_true (by omega)
                    (try rw [show ((0 : Int)).toNat = 0 from rfl] at hx343_0)
                    (try rw [Addr.add_zero'] at hx343_0)
                    have HR343_0 := Aside0.mk hi343_0
                    have HC343_0 := Aside0.mk hl343_0
                    clear hi343_0 hl343_0
                    replace p343 := eq_true p343
                    replace q343 := eq_true q343
                    go_wp2_with (first | (go_at_call 35; (with_reducible refine (salchowref36_Once.calls k2 _ _ (rd_L1 l0 x3_2) ((rd_L1 l0 0).length : Int) true _ ?side1 ?side2 A9.out).mono ?_); (case side1 => repeat (first | exact HR342_0.out | (with_reducible refine Kd.C_alloc ?_ _) | (with_reducible refine Kd.C_drewN ?_ _) | (with_reducible refine Kd.C_drew ?_))); (case side2 => exact HC342_0.out); rintro e w' ⟨rfl, ⟨nd, rfl⟩⟩; (try first | exact ⟨rfl, _, World.drewN_drewN _ _ _⟩ | exact ⟨rfl, _, Eq.trans (World.drewN_drewN _ _ _) (congrArg (World.drewN _) (Nat.add_assoc _ _ _))⟩)))
                    repeat (go_quiet (first | (go_at_call 35; (with_reducible refine (salchowref36_Once.calls k2 _ _ (rd_L1 l0 x3_2) ((rd_L1 l0 0).length : Int) true _ ?side1 ?side2 A9.out).mono ?_); (case side1 => repeat (first | exact HR342_0.out | (with_reducible refine Kd.C_alloc ?_ _) | (with_reducible refine Kd.C_drewN ?_ _) | (with_reducible refine Kd.C_drew ?_))); (case side2 => exact HC342_0.out); rintro e w' ⟨rfl, ⟨nd, rfl⟩⟩; (try first | exact ⟨rfl, _, World.drewN_drewN _ _ _⟩ | exact ⟨rfl, _, Eq.trans (World.drewN_drewN _ _ _) (congrArg (World.drewN _) (Nat.add_assoc _ _ _))⟩))); try go_wp2_with (first | (go_at_call 35; (with_reducible refine (salchowref36_Once.calls k2 _ _ (rd_L1 l0 x3_2) ((rd_L1 l0 0).length : Int) true _ ?side1 ?side2 A9.out).mono ?_); (case side1 => repeat (first | exact HR342_0.out | (with_reducible refine Kd.C_alloc ?_ _) | (with_reducible refine Kd.C_drewN ?_ _) | (with_reducible refine Kd.C_drew ?_))); (case side2 => exact HC342_0.out); rintro e w' ⟨rfl, ⟨nd, rfl⟩⟩; (try first | exact ⟨rfl, _, World.drewN_drewN _ _ _⟩ | exact ⟨rfl, _, Eq.trans (World.drewN_drewN _ _ _) (congrArg (World.drewN _) (Nat.add_assoc _ _ _))⟩))))
                    go_roundg k2
                    case measure => have := HJ1.out; have := HK2.out; omega
                    case rel => exact ⟨(wrap64 (x3_2 + 1)), (by first | rfl | (simp; done) | (simp [*]; done)), H', ⟨by have := HJ1.out; have := HK2.out; omega⟩, by repeat (first | exact Drawn0.refl _ | apply Drawn0.step)⟩
                  · replace c10 := Bool.eq_false_iff.mpr c10
                    subst c10
                    have H1 : (some false) = some r := by rw [if_neg (show ¬ (false = true) by decide)] at H; exact H
                    clear H
                    have H := H1
                    clear H1
                    obtain rfl := Option.some.inj H
                    have p342 : 0 ≤ (x3_2 : Int) := of_decide_eq_true (by first | (with_reducible assumption) | assumption)
                    have q342 : x3_2 < (l0.length : Int) := of_decide_eq_true (by first | (with_reducible assumption) | assumption)
                    obtain ⟨ad342, A342_0, c342_0, e342, hx342_0, hl342_0, hi342_0⟩ := at_L1 HR0.out x3_2 p342 q342
                    cases e342
                    have HR342_0 := Aside0.mk hi342_0
                    have HC342_0 := Aside0.mk hl342_0
                    clear hi342_0 hl342_0
                    replace p342 := eq_true p342
                    replace q342 := eq_true q342
                    have p343 : 0 ≤ (0 : Int) := (by omega)
                    have q343 : 0 < (l0.length : Int) := of_decide_eq_true (by first | (with_reducible assumption) | assumption)
                    obtain ⟨ad343, A343_0, c343_0, e343, hx343_0, hl343_0, hi343_0⟩ := at_L1 HR0.out 0 p343 q343
                    obtain rfl : ad342 = ad343 := (by injection e343)
                    have qi343 : (0 < l0.length) = True := eq_true (by omega)
                    (try rw [show ((0 : Int)).toNat = 0 from rfl] at hx343_0)
                    (try rw [Addr.add_zero'] at hx343_0)
                    have HR343_0 := Aside0.mk hi343_0
                    have HC343_0 := Aside0.mk hl343_0
                    clear hi343_0 hl343_0
                    replace p343 := eq_true p343
                    replace q343 := eq_true q343
                    go_wp2_with (first | (go_at_call 35; (with_reducible refine (salchowref36_Once.calls k2 _ _ (rd_L1 l0 x3_2) ((rd_L1 l0 0).length : Int) false _ ?side1 ?side2 A9.out).mono ?_); (case side1 => repeat (first | exact HR342_0.out | (with_reducible refine Kd.C_alloc ?_ _) | (with_reducible refine Kd.C_drewN ?_ _) | (with_reducible refine Kd.C_drew ?_))); (case side2 => exact HC342_0.out); rintro e w' ⟨rfl, ⟨nd, rfl⟩⟩; (try first | exact ⟨rfl, _, World.drewN_drewN _ _ _⟩ | exact ⟨rfl, _, Eq.trans (World.drewN_drewN _ _ _) (congrArg (World.drewN _) (Nat.add_assoc _ _ _))⟩)))
                    repeat (go_quiet (first | (go_at_call 35; (with_reducible refine (salchowref36_Once.calls k2 _ _ (rd_L1 l0 x3_2) ((rd_L1 l0 0).length : Int) false _ ?side1 ?side2 A9.out).mono ?_); (case side1 => repeat (first | exact HR342_0.out | (with_reducible refine Kd.C_alloc ?_ _) | (with_reducible refine Kd.C_drewN ?_ _) | (with_reducible refine Kd.C_drew ?_))); (case side2 => exact HC342_0.out); rintro e w' ⟨rfl, ⟨nd, rfl⟩⟩; (try first | exact ⟨rfl, _, World.drewN_drewN _ _ _⟩ | exact ⟨rfl, _, Eq.trans (World.drewN_drewN _ _ _) (congrArg (World.drewN _) (Nat.add_assoc _ _ _))⟩))); try go_wp2_with (first | (go_at_call 35; (with_reducible refine (salchowref36_Once.calls k2 _ _ (rd_L1 l0 x3_2) ((rd_L1 l0 0).length : Int) false _ ?side1 ?side2 A9.out).mono ?_); (case side1 => repeat (first | exact HR342_0.out | (with_reducible refine Kd.C_alloc ?_ _) | (with_reducible refine Kd.C_drewN ?_ _) | (with_reducible refine Kd.C_drew ?_))); (case side2 => exact HC342_0.out); rintro e w' ⟨rfl, ⟨nd, rfl⟩⟩; (try first | exact ⟨rfl, _, World.drewN_drewN _ _ _⟩ | exact ⟨rfl, _, Eq.trans (World.drewN_drewN _ _ _) (congrArg (World.drewN _) (Nat.add_assoc _ _ _))⟩))))
                    go_ret
                    exact ⟨by first | rfl | (simp; done) | (simp [*]; done), by repeat (first | exact Drawn0.refl _ | apply Drawn0.step)⟩
                · rw [if_neg c8] at H
                  exact absurd H (by simp)
              · rw [if_neg c7] at H
                exact absurd H (by simp)
            · rw [if_neg c6] at H
              have c6b0 : decide (x3_2 < (l0.length : Int)) = false := decide_eq_false c6
              clear c6
              obtain rfl := Option.some.inj H
              go_wp2
              repeat (go_quiet (fail); try go_wp2)
              go_ret
              exact ⟨by first | rfl | (simp; done) | (simp [*]; done), by repeat (first | exact Drawn0.refl _ | apply Drawn0.step)⟩

end Go.Proofs.Ytaodpgblleiiaaa.P
