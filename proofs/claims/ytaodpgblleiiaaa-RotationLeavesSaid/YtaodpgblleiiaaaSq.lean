/- The plain side of the squares: what the printed functions of package rotation and of its reference come to. -/
import Derived.Test.YtaodpgblleiiaaaE
import Derived.Test.YtaodpgblleiiaaaPx1
import Derived.Test.YtaodpgblleiiaaaPx4
import Derived.Test.YtaodpgblleiiaaaPx5
namespace Go.Proofs.Ytaodpgblleiiaaa.E
open Go.RowKit Go.Proofs.YtaodpgblleiiaaaW.PrintWords Go.Proofs.YtaodpgblleiiaaaW.PrintLast Go.Proofs.Ytaodpgblleiiaaa.P
set_option linter.unusedVariables false

theorem size_ev (n : Int) : rotation_size.f n = some (decide (1 ≤ n ∧ n ≤ 64)) := by
  unfold rotation_size.f
  by_cases h : n ≥ 1
  · rw [if_pos h]; congr 1; simp; omega
  · rw [if_neg h]; congr 1; simp; omega

theorem same_l (a : List Int) (h : a.length < 4611686018427387904) : ∀ j, j ≤ a.length → Ev (fun k => salchowref36_Same.l0 k a a (j : Int)) true := by
  refine down a.length ?_ ?_
  · refine ev_round ?_
    simp only [salchowref36_Same.l0]
    exact ev_neg (by omega) (ev_end rfl)
  · intro j hj ih
    refine ev_round ?_
    simp only [salchowref36_Same.l0]
    refine ev_pos (by omega) (ev_pos (by omega) (ev_pos (by omega) (ev_pos trivial ?_)))
    rw [wid (by omega) (by omega)]
    exact ih
theorem same_ev (a : List Int) (h : a.length < 4611686018427387904) : Ev (fun k => salchowref36_Same.f k a a) true := by
  simp only [salchowref36_Same.f]
  exact ev_pos trivial (same_l a h 0 (by omega))

theorem sameRows_l (a : List (List Int)) (h : a.length < 4611686018427387904) (hr : ∀ x ∈ a, x.length < 4611686018427387904) : ∀ j, j ≤ a.length → Ev (fun k => salchowref36_SameRows.l0 k a a (j : Int)) true := by
  refine down a.length ?_ ?_
  · refine ev_round ?_
    simp only [salchowref36_SameRows.l0]
    exact ev_neg (by omega) (ev_end rfl)
  · intro j hj ih
    refine ev_round ?_
    simp only [salchowref36_SameRows.l0]
    refine ev_pos (by omega) (ev_pos (by omega) (ev_pos (by omega) (ev_call (same_ev _ ?_) (ev_pos rfl ?_))))
    · unfold rd_L1; rw [Int.toNat_natCast, List.getD_eq_getElem?_getD, List.getElem?_eq_getElem hj]; exact hr _ (List.getElem_mem hj)
    · rw [wid (by omega) (by omega)]
      exact ih
theorem sameRows_ev (a : List (List Int)) (h : a.length < 4611686018427387904) (hr : ∀ x ∈ a, x.length < 4611686018427387904) : Ev (fun k => salchowref36_SameRows.f k a a) true := by
  simp only [salchowref36_SameRows.f]
  exact ev_pos trivial (sameRows_l a h hr 0 (by omega))

/-- The first j terms of a sequence. -/
def upto {α : Type} (F : Nat → α) (j : Nat) : List α := (List.range j).map F
theorem upto_succ {α : Type} (F : Nat → α) (j : Nat) : upto F (j + 1) = upto F j ++ [F j] := by unfold upto; rw [List.range_succ, List.map_append]; rfl
theorem upto_len {α : Type} (F : Nat → α) (j : Nat) : (upto F j).length = j := by simp [upto]
theorem upto_get {α : Type} (F : Nat → α) (j i : Nat) (h : i < (upto F j).length) : (upto F j)[i] = F i := by simp [upto]
theorem tmod_nat (a b : Nat) : Int.tmod (a : Int) (b : Int) = ((a % b : Nat) : Int) := by rw [Int.tmod_eq_emod_of_nonneg (by omega)]; omega

def cycRow (n t : Nat) : List Int := upto (fun g => (((g + t) % n : Nat) : Int)) n
def cyc (n : Nat) : List (List Int) := upto (cycRow n) n

theorem cyclic_l1 (n : Nat) (hn : 1 ≤ n ∧ n ≤ 64) (t : Nat) (ht : t < n) (x4 : List (List Int)) (hx : x4.length = t) (r : List (List Int) × Int)
    (ih : Ev (fun k => rotation_Cyclic.l0 k n (x4 ++ [cycRow n t]) n ((t + 1 : Nat) : Int)) r) :
    ∀ j, j ≤ n → Ev (fun k => rotation_Cyclic.l1 k n x4 t (upto (fun g => (((g + t) % n : Nat) : Int)) j) n t n (j : Int)) r := by
  refine down n ?_ ?_
  · refine ev_round ?_
    simp only [rotation_Cyclic.l1]
    refine ev_neg (by omega) (ev_pos (by omega) ?_)
    rw [wid (by omega) (by omega)]
    exact ih
  · intro j hj ih2
    refine ev_round ?_
    simp only [rotation_Cyclic.l1]
    refine ev_pos (by omega) (ev_neg (by omega) (ev_pos (by rw [upto_len]; omega) ?_))
    rw [wid (by omega) (by omega), wid (by omega) (by omega)]
    rw [upto_succ] at ih2
    have e : Int.tmod ((j : Int) + (t : Int)) (n : Int) = (((j + t) % n : Nat) : Int) := by rw [← tmod_nat]; rfl
    rw [e]
    exact ih2
theorem cyclic_l0 (n : Nat) (hn : 1 ≤ n ∧ n ≤ 64) : ∀ t, t ≤ n → Ev (fun k => rotation_Cyclic.l0 k n (upto (cycRow n) t) n (t : Int)) (cyc n, 0) := by
  refine down n ?_ ?_
  · refine ev_round ?_
    simp only [rotation_Cyclic.l0]
    exact ev_neg (by omega) (ev_end rfl)
  · intro t ht ih
    refine ev_round ?_
    simp only [rotation_Cyclic.l0]
    refine ev_pos (by omega) ?_
    rw [upto_succ] at ih
    exact cyclic_l1 n hn t ht _ (upto_len _ _) _ ih 0 (by omega)
theorem cyclic_ev (n : Nat) (hn : 1 ≤ n ∧ n ≤ 64) : Ev (fun k => rotation_Cyclic.f k n) (cyc n, 0) := by
  simp only [rotation_Cyclic.f]
  refine ev_const (size_ev n) (ev_pos (by simp; omega) ?_)
  exact cyclic_l0 n hn 0 (by omega)
theorem cyclic_no (n : Int) (hn : ¬ (1 ≤ n ∧ n ≤ 64)) : Ev (fun k => rotation_Cyclic.f k n) ([], 1) := by
  simp only [rotation_Cyclic.f]
  exact ev_const (size_ev n) (ev_neg (by simp; omega) (ev_end rfl))

theorem refcyc_l1 (n : Nat) (hn : 1 ≤ n ∧ n ≤ 64) (t : Nat) (ht : t < n) (x4 : List (List Int)) (hx : x4.length = t) (r : List (List Int))
    (ih : Ev (fun k => salchowref36_Cyclic.l0 k n (x4 ++ [cycRow n t]) ((t + 1 : Nat) : Int)) r) :
    ∀ j, j ≤ n → Ev (fun k => salchowref36_Cyclic.l1 k n x4 t (upto (fun g => (((g + t) % n : Nat) : Int)) j) (j : Int)) r := by
  refine down n ?_ ?_
  · refine ev_round ?_
    simp only [salchowref36_Cyclic.l1]
    refine ev_neg (by omega) (ev_pos (by omega) ?_)
    rw [wid (by omega) (by omega)]
    exact ih
  · intro j hj ih2
    refine ev_round ?_
    simp only [salchowref36_Cyclic.l1]
    refine ev_pos (by omega) (ev_neg (by omega) (ev_pos (by rw [upto_len]; omega) ?_))
    rw [wid (by omega) (by omega), wid (by omega) (by omega)]
    rw [upto_succ] at ih2
    have e : Int.tmod ((j : Int) + (t : Int)) (n : Int) = (((j + t) % n : Nat) : Int) := by rw [← tmod_nat]; rfl
    rw [e]
    exact ih2
theorem refcyc_l0 (n : Nat) (hn : 1 ≤ n ∧ n ≤ 64) : ∀ t, t ≤ n → Ev (fun k => salchowref36_Cyclic.l0 k n (upto (cycRow n) t) (t : Int)) (cyc n) := by
  refine down n ?_ ?_
  · refine ev_round ?_
    simp only [salchowref36_Cyclic.l0]
    exact ev_neg (by omega) (ev_end rfl)
  · intro t ht ih
    refine ev_round ?_
    simp only [salchowref36_Cyclic.l0]
    refine ev_pos (by omega) ?_
    rw [upto_succ] at ih
    exact refcyc_l1 n hn t ht _ (upto_len _ _) _ ih 0 (by omega)
theorem refcyc_ev (n : Nat) (hn : 1 ≤ n ∧ n ≤ 64) : Ev (fun k => salchowref36_Cyclic.f k n) (cyc n) := by
  simp only [salchowref36_Cyclic.f]
  exact refcyc_l0 n hn 0 (by omega)

/-- The number with an index in the sequence of the balanced square. -/
def turn (n t : Nat) : Nat := if t % 2 = 1 then (t + 1) / 2 else (n - t / 2) % n
def balRow (n t : Nat) : List Int := upto (fun g => (((turn n t + g) % n : Nat) : Int)) n
def bal (n : Nat) : List (List Int) := upto (balRow n) n
theorem turn_le (n t : Nat) (hn : 1 ≤ n ∧ n ≤ 64) (ht : t < n) : turn n t ≤ 64 := by
  unfold turn
  split
  · omega
  · have := Nat.mod_lt (n - t / 2) (show 0 < n by omega); omega

theorem bal_l1 (n : Nat) (hn : 1 ≤ n ∧ n ≤ 64) (t : Nat) (ht : t < n) (x4 : List (List Int)) (hx : x4.length = t) (r : List (List Int) × Int)
    (ih : Ev (fun k => rotation_Balanced.l0 k n (x4 ++ [balRow n t]) n ((t + 1 : Nat) : Int)) r) :
    ∀ j, j ≤ n → Ev (fun k => rotation_Balanced.l1 k n x4 (turn n t : Nat) (upto (fun g => (((turn n t + g) % n : Nat) : Int)) j) n t n (j : Int)) r := by
  have hl := turn_le n t hn ht
  refine down n ?_ ?_
  · refine ev_round ?_
    simp only [rotation_Balanced.l1]
    refine ev_neg (by omega) (ev_pos (by omega) ?_)
    rw [wid (by omega) (by omega)]
    exact ih
  · intro j hj ih2
    refine ev_round ?_
    simp only [rotation_Balanced.l1]
    refine ev_pos (by omega) (ev_neg (by omega) (ev_pos (by rw [upto_len]; omega) ?_))
    rw [wid (by omega) (by omega), wid (by omega) (by omega)]
    rw [upto_succ] at ih2
    have e : Int.tmod ((turn n t : Int) + (j : Int)) (n : Int) = (((turn n t + j) % n : Nat) : Int) := by rw [← tmod_nat]; rfl
    rw [e]
    exact ih2
theorem half (t : Nat) : Int.tdiv (t : Int) 2 = ((t / 2 : Nat) : Int) := by rw [Int.tdiv_eq_ediv_of_nonneg (by omega)]; omega
theorem bal_l0 (n : Nat) (hn : 1 ≤ n ∧ n ≤ 64) : ∀ t, t ≤ n → Ev (fun k => rotation_Balanced.l0 k n (upto (balRow n) t) n (t : Int)) (bal n, 0) := by
  refine down n ?_ ?_
  · refine ev_round ?_
    simp only [rotation_Balanced.l0]
    exact ev_neg (by omega) (ev_end rfl)
  · intro t ht ih
    rw [upto_succ] at ih
    have g := bal_l1 n hn t ht _ (upto_len _ _) _ ih 0 (by omega)
    refine ev_round ?_
    simp only [rotation_Balanced.l0]
    have e2 : Int.tmod (t : Int) 2 = ((t % 2 : Nat) : Int) := tmod_nat t 2
    refine ev_pos (by omega) (ev_ite (fun h => ev_neg (by omega) (ev_round ?_)) (fun h => ev_round ?_))
    · simp only [rotation_Balanced.j1]
      have e1 : turn n t = (n - t / 2) % n := by unfold turn; rw [if_neg (by omega)]
      have e : Int.tmod (wrap64 ((n : Int) - wrap64 (Int.tdiv (t : Int) 2))) (n : Int) = ((turn n t : Nat) : Int) := by
        rw [half, wid (x := ((t / 2 : Nat) : Int)) (by omega) (by omega), wid (by omega) (by omega), e1, ← tmod_nat]
        congr 1; omega
      rw [e]
      exact g
    · simp only [rotation_Balanced.j1]
      have e1 : turn n t = (t + 1) / 2 := by unfold turn; rw [if_pos (by omega)]
      have e : wrap64 (Int.tdiv (wrap64 ((t : Int) + 1)) 2) = ((turn n t : Nat) : Int) := by
        rw [wid (x := (t : Int) + 1) (by omega) (by omega), show (t : Int) + 1 = ((t + 1 : Nat) : Int) by omega, half, wid (by omega) (by omega), e1]
      rw [e]
      exact g
theorem bal_ev (n : Nat) (hn : 1 ≤ n ∧ n ≤ 64) (h2 : n % 2 = 0) : Ev (fun k => rotation_Balanced.f k n) (bal n, 0) := by
  simp only [rotation_Balanced.f]
  refine ev_const (size_ev n) (ev_pos (by simp; omega) (ev_neg ?_ ?_))
  · have e2 : Int.tmod (n : Int) 2 = ((n % 2 : Nat) : Int) := tmod_nat n 2
    omega
  · exact bal_l0 n hn 0 (by omega)
theorem bal_odd (n : Nat) (hn : 1 ≤ n ∧ n ≤ 64) (h2 : n % 2 = 1) : Ev (fun k => rotation_Balanced.f k n) ([], 8) := by
  simp only [rotation_Balanced.f]
  refine ev_const (size_ev n) (ev_pos (by simp; omega) (ev_pos ?_ (ev_end rfl)))
  have e2 : Int.tmod (n : Int) 2 = ((n % 2 : Nat) : Int) := tmod_nat n 2
  omega
theorem bal_no (n : Int) (hn : ¬ (1 ≤ n ∧ n ≤ 64)) : Ev (fun k => rotation_Balanced.f k n) ([], 1) := by
  simp only [rotation_Balanced.f]
  exact ev_const (size_ev n) (ev_neg (by simp; omega) (ev_end rfl))

theorem turn_ev (n t : Nat) (hn : 1 ≤ n ∧ n ≤ 64) (ht : t < n) : salchowref36_Turn.f t n = some ((turn n t : Nat) : Int) := by
  unfold salchowref36_Turn.f
  have e2 : Int.tmod (t : Int) 2 = ((t % 2 : Nat) : Int) := tmod_nat t 2
  by_cases h : t % 2 = 1
  · rw [if_pos (by omega)]
    have e1 : turn n t = (t + 1) / 2 := by unfold turn; rw [if_pos (by omega)]
    rw [wid (x := (t : Int) + 1) (by omega) (by omega), show (t : Int) + 1 = ((t + 1 : Nat) : Int) by omega, half, wid (by omega) (by omega), e1]
  · rw [if_neg (by omega), if_neg (by omega)]
    have e1 : turn n t = (n - t / 2) % n := by unfold turn; rw [if_neg (by omega)]
    rw [half, wid (x := ((t / 2 : Nat) : Int)) (by omega) (by omega), wid (by omega) (by omega), e1, ← tmod_nat]
    congr 2; omega
theorem refbal_l1 (n : Nat) (hn : 1 ≤ n ∧ n ≤ 64) (t : Nat) (ht : t < n) (x4 : List (List Int)) (hx : x4.length = t) (r : List (List Int))
    (ih : Ev (fun k => salchowref36_Balanced.l0 k n (x4 ++ [balRow n t]) ((t + 1 : Nat) : Int)) r) :
    ∀ j, j ≤ n → Ev (fun k => salchowref36_Balanced.l1 k n x4 t (upto (fun g => (((turn n t + g) % n : Nat) : Int)) j) (j : Int)) r := by
  have hl := turn_le n t hn ht
  refine down n ?_ ?_
  · refine ev_round ?_
    simp only [salchowref36_Balanced.l1]
    refine ev_neg (by omega) (ev_pos (by omega) ?_)
    rw [wid (by omega) (by omega)]
    exact ih
  · intro j hj ih2
    refine ev_round ?_
    simp only [salchowref36_Balanced.l1]
    refine ev_pos (by omega) (ev_const (turn_ev n t hn ht) (ev_neg (by omega) (ev_pos (by rw [upto_len]; omega) ?_)))
    rw [wid (by omega) (by omega), wid (by omega) (by omega)]
    rw [upto_succ] at ih2
    have e : Int.tmod ((turn n t : Int) + (j : Int)) (n : Int) = (((turn n t + j) % n : Nat) : Int) := by rw [← tmod_nat]; rfl
    rw [e]
    exact ih2
theorem refbal_l0 (n : Nat) (hn : 1 ≤ n ∧ n ≤ 64) : ∀ t, t ≤ n → Ev (fun k => salchowref36_Balanced.l0 k n (upto (balRow n) t) (t : Int)) (bal n) := by
  refine down n ?_ ?_
  · refine ev_round ?_
    simp only [salchowref36_Balanced.l0]
    exact ev_neg (by omega) (ev_end rfl)
  · intro t ht ih
    refine ev_round ?_
    simp only [salchowref36_Balanced.l0]
    refine ev_pos (by omega) ?_
    rw [upto_succ] at ih
    exact refbal_l1 n hn t ht _ (upto_len _ _) _ ih 0 (by omega)
theorem refbal_ev (n : Nat) (hn : 1 ≤ n ∧ n ≤ 64) : Ev (fun k => salchowref36_Balanced.f k n) (bal n) := by
  simp only [salchowref36_Balanced.f]
  exact refbal_l0 n hn 0 (by omega)

theorem awake_ev : Ev (fun k => salchowlaw36_awake.f k) true := Ev.of salchowlaw36_awake.mono (k := 40) (by decide +kernel)
end Go.Proofs.Ytaodpgblleiiaaa.E
