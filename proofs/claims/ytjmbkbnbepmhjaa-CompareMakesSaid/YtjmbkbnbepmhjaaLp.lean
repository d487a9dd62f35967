/- What the small functions compute: loops over scripts and lines. -/
import Derived.Test.YtjmbkbnbepmhjaaE
import Derived.Test.YtjmbkbnbepmhjaaDt
import Derived.Test.YtjmbkbnbepmhjaaPx3
import Derived.Test.YtjmbkbnbepmhjaaPx21
import Derived.Test.YtjmbkbnbepmhjaaPx19
namespace Go.Proofs.Ytjmbkbnbepmhjaa.Pure
open Go.RowKit Go.Proofs.Ytjmbkbnbepmhjaa.P Go.Proofs.Ytjmbkbnbepmhjaa.E Go.Proofs.YtjmbkbnbepmhjaaW.PrintWords Go.Proofs.YtjmbkbnbepmhjaaW.PrintLast
set_option linter.unusedVariables false

theorem awake_ev : Ev (fun k => salchowlaw25_awake.f k) true := Ev.of salchowlaw25_awake.mono (k := 40) (by decide +kernel)
theorem drop50 (l : List S50) (i : Nat) (h : i < l.length) : l.drop i = rd_T50 l (i : Int) :: l.drop (i + 1) := by
  rw [List.drop_eq_getElem_cons h]; congr 1; unfold rd_T50; simp [List.getD_eq_getElem?_getD, h]
theorem drop58 (l : List S58) (i : Nat) (h : i < l.length) : l.drop i = rd_T58 l (i : Int) :: l.drop (i + 1) := by
  rw [List.drop_eq_getElem_cons h]; congr 1; unfold rd_T58; simp [List.getD_eq_getElem?_getD, h]
theorem drop63 (l : List S63) (i : Nat) (h : i < l.length) : l.drop i = rd_T63 l (i : Int) :: l.drop (i + 1) := by
  rw [List.drop_eq_getElem_cons h]; congr 1; unfold rd_T63; simp [List.getD_eq_getElem?_getD, h]
theorem up1 (i n : Nat) (hi : i < n) (hn : n ≤ 1000000) : wrap64 ((i : Int) + 1) = ((i + 1 : Nat) : Int) := by
  rw [wid (by omega) (by omega)]; rfl
theorem ev_any {α : Type} {f : Nat → Option α} {p : α → Prop} {c : Prop} [Decidable c] {g : Nat → Option α} (hf : c → ∃ r, Ev f r ∧ p r) (hg : ¬ c → ∃ r, Ev g r ∧ p r) : ∃ r, Ev (fun k => if c then f k else g k) r ∧ p r := by
  by_cases h : c
  · obtain ⟨r, h1, h2⟩ := hf h; exact ⟨r, ev_pos h h1, h2⟩
  · obtain ⟨r, h1, h2⟩ := hg h; exact ⟨r, ev_neg h h1, h2⟩
theorem small_ev (a b : List S50) (s : List S58) : ∃ r : Bool, Ev (fun k => salchowref25_Small.f k a b s) r ∧ (r = true → a.length ≤ 40 ∧ b.length ≤ 40 ∧ s.length ≤ 80) := by
  unfold salchowref25_Small.f
  have stop : ∃ r : Bool, Ev (fun k => salchowref25_Small.j0 k a b s true) r ∧ (r = true → a.length ≤ 40 ∧ b.length ≤ 40 ∧ s.length ≤ 80) := by
    refine ⟨false, ev_round ?_, fun h => absurd h (by simp)⟩
    simp only [salchowref25_Small.j0]
    exact ev_pos (by simp) (ev_end rfl)
  refine ev_any (fun _ => stop) (fun h1 => ev_any (fun _ => stop) (fun h2 => ?_))
  by_cases h3 : (s.length : Int) > 80
  · rw [decide_eq_true h3]; exact stop
  rw [decide_eq_false h3]
  have hl2 : ∃ r : Bool, Ev (fun k => salchowref25_Small.l2 k s 0) r := by
    refine down (P := fun j => ∃ r : Bool, Ev (fun k => salchowref25_Small.l2 k s (j : Int)) r) s.length ?_ ?_ 0 (by omega)
    · refine ⟨true, ev_round ?_⟩
      simp only [salchowref25_Small.l2]
      exact ev_neg (by omega) (ev_end rfl)
    · rintro j hj ⟨r, hr⟩
      by_cases c : (((rd_T58 s j).f1.f0).size : Int) > 40
      · refine ⟨false, ev_round ?_⟩
        simp only [salchowref25_Small.l2]
        exact ev_pos (by omega) (ev_pos (by omega) (ev_pos c (ev_end rfl)))
      · refine ⟨r, ev_round ?_⟩
        simp only [salchowref25_Small.l2]
        refine ev_pos (by omega) (ev_pos (by omega) (ev_neg c ?_))
        rw [up1 j s.length hj (by omega)]; exact hr
  have hl1 : ∃ r : Bool, Ev (fun k => salchowref25_Small.l1 k b s 0) r := by
    refine down (P := fun j => ∃ r : Bool, Ev (fun k => salchowref25_Small.l1 k b s (j : Int)) r) b.length ?_ ?_ 0 (by omega)
    · obtain ⟨r, hr⟩ := hl2
      refine ⟨r, ev_round ?_⟩
      simp only [salchowref25_Small.l1]
      exact ev_neg (by omega) hr
    · rintro j hj ⟨r, hr⟩
      by_cases c : (((rd_T50 b j).f0).size : Int) > 40
      · refine ⟨false, ev_round ?_⟩
        simp only [salchowref25_Small.l1]
        exact ev_pos (by omega) (ev_pos (by omega) (ev_pos c (ev_end rfl)))
      · refine ⟨r, ev_round ?_⟩
        simp only [salchowref25_Small.l1]
        refine ev_pos (by omega) (ev_pos (by omega) (ev_neg c ?_))
        rw [up1 j b.length hj (by omega)]; exact hr
  have hl0 : ∃ r : Bool, Ev (fun k => salchowref25_Small.l0 k a b s 0) r := by
    refine down (P := fun j => ∃ r : Bool, Ev (fun k => salchowref25_Small.l0 k a b s (j : Int)) r) a.length ?_ ?_ 0 (by omega)
    · obtain ⟨r, hr⟩ := hl1
      refine ⟨r, ev_round ?_⟩
      simp only [salchowref25_Small.l0]
      exact ev_neg (by omega) hr
    · rintro j hj ⟨r, hr⟩
      by_cases c : (((rd_T50 a j).f0).size : Int) > 40
      · refine ⟨false, ev_round ?_⟩
        simp only [salchowref25_Small.l0]
        exact ev_pos (by omega) (ev_pos (by omega) (ev_pos c (ev_end rfl)))
      · refine ⟨r, ev_round ?_⟩
        simp only [salchowref25_Small.l0]
        refine ev_pos (by omega) (ev_pos (by omega) (ev_neg c ?_))
        rw [up1 j a.length hj (by omega)]; exact hr
  obtain ⟨r, hr⟩ := hl0
  refine ⟨r, ev_round ?_, fun _ => by omega⟩
  simp only [salchowref25_Small.j0]
  exact ev_neg (by simp) hr
/-- The cost of an operation. -/
def costI (op : Int) : Int := if op = 1 then 0 else if op = 2 then 1 else if op = 4 then 2 else if op = 5 then 2 else if op = 3 then 3 else -1
theorem cost_ev (op : Int) : Ev (fun k => compare_Cost.f k op) (costI op) := by
  unfold compare_Cost.f costI
  by_cases h1 : op = 1
  · rw [if_pos h1]; exact ev_pos h1 (ev_end rfl)
  rw [if_neg h1]; refine ev_neg h1 ?_
  by_cases h2 : op = 2
  · rw [if_pos h2]; exact ev_pos h2 (ev_end rfl)
  rw [if_neg h2]; refine ev_neg h2 ?_
  by_cases h4 : op = 4
  · subst h4; refine ev_pos rfl (ev_round ?_); simp only [compare_Cost.j0]; exact ev_pos (by simp) (ev_end (by simp))
  rw [if_neg h4]; refine ev_neg h4 (ev_round ?_); simp only [compare_Cost.j0]
  by_cases h5 : op = 5
  · subst h5; exact ev_pos (by simp) (ev_end (by simp))
  rw [if_neg h5]; refine ev_neg (by simpa using h5) ?_
  exact ev_ite (fun h => ev_end (by rw [if_pos h])) (fun h => ev_end (by rw [if_neg h]))
theorem refcost_ev (op : Int) : Ev (fun k => salchowref25_Cost.f k op) (costI op) := by
  unfold salchowref25_Cost.f costI
  by_cases h1 : op = 1
  · rw [if_pos h1]; exact ev_pos h1 (ev_end rfl)
  rw [if_neg h1]; refine ev_neg h1 ?_
  by_cases h2 : op = 2
  · rw [if_pos h2]; exact ev_pos h2 (ev_end rfl)
  rw [if_neg h2]; refine ev_neg h2 ?_
  by_cases h4 : op = 4
  · subst h4; refine ev_pos rfl (ev_round ?_); simp only [salchowref25_Cost.j0]; exact ev_pos (by simp) (ev_end (by simp))
  rw [if_neg h4]; refine ev_neg h4 (ev_round ?_); simp only [salchowref25_Cost.j0]
  by_cases h5 : op = 5
  · subst h5; exact ev_pos (by simp) (ev_end (by simp))
  rw [if_neg h5]; refine ev_neg (by simpa using h5) ?_
  exact ev_ite (fun h => ev_end (by rw [if_pos h])) (fun h => ev_end (by rw [if_neg h]))
/-- An item that is not zero. -/
def full (x : S50) : Bool := !((x.f0.toList) == ([] : List UInt8)) || (!(x.f1 == 0) || (x.f2 || (x.f3 || x.f4)))
/-- A step that cannot be. -/
def bad (x : S63) : Bool := decide (costI x.f0 < 0) || ((decide (x.f0 = 1) || decide (x.f0 = 5)) && full x.f1)
def checkL (s : List S63) : Int := if s.any bad = true then 1 else 0
def checkV (s : List S63) : Int := if (s.length : Int) > 60 then 6 else checkL s
theorem check_ev (s : List S63) : Ev (fun k => compare_check.f k s) (checkV s) := by
  unfold compare_check.f checkV
  refine ev_ite (fun h => by rw [if_pos h]; exact ev_end rfl) (fun h => ?_)
  rw [if_neg h]
  have key : Ev (fun k => compare_check.l0 k s (s.length : Int) ((0 : Nat) : Int)) (checkL (s.drop 0)) := by
    refine down (P := fun j => Ev (fun k => compare_check.l0 k s (s.length : Int) (j : Int)) (checkL (s.drop j))) s.length ?_ ?_ 0 (by omega)
    · refine ev_round ?_
      simp only [compare_check.l0, List.drop_length]
      exact ev_neg (by omega) (ev_end rfl)
    · intro j hj ih
      refine ev_round ?_
      simp only [compare_check.l0]
      refine ev_pos (by omega) (ev_pos (by omega) (ev_pos (by omega) (ev_call (cost_ev _) ?_)))
      rw [up1 j s.length hj (by omega), drop63 s j hj]
      have go : bad (rd_T63 s j) = false → checkL (rd_T63 s j :: s.drop (j + 1)) = checkL (s.drop (j + 1)) := fun e => by unfold checkL; rw [List.any_cons, e, Bool.false_or]
      have st : bad (rd_T63 s j) = true → checkL (rd_T63 s j :: s.drop (j + 1)) = 1 := fun e => by unfold checkL; rw [List.any_cons, e, Bool.true_or, if_pos rfl]
      by_cases c : costI (rd_T63 s j).f0 < 0
      · exact ev_pos c (ev_end (st (by unfold bad; simp [c])).symm)
      refine ev_neg c ?_
      by_cases h1 : (rd_T63 s j).f0 = 1
      · refine ev_pos h1 ?_
        by_cases f : full (rd_T63 s j).f1 = true
        · exact ev_pos f (ev_end (st (by unfold bad; simp [h1, f])).symm)
        · refine ev_neg f ?_
          rw [go (by unfold bad; simp [h1, f]; decide)]; exact ih
      refine ev_neg h1 ?_
      by_cases h5 : (rd_T63 s j).f0 = 5
      · refine ev_pos h5 ?_
        by_cases f : full (rd_T63 s j).f1 = true
        · exact ev_pos f (ev_end (st (by unfold bad; simp [h5, f])).symm)
        · refine ev_neg f ?_
          rw [go (by unfold bad; simp [h5, f]; decide)]; exact ih
      refine ev_neg h5 ?_
      rw [go (by unfold bad; simp [h1, h5]; omega)]; exact ih
  exact key
end Go.Proofs.Ytjmbkbnbepmhjaa.Pure
