/- The plain side of Apply and Invert: loops over scripts and lines. -/
import Derived.Test.YtjmbkbnbepmhjaaPx6
import Derived.Test.YtjmbkbnbepmhjaaE
import Derived.Test.YtjmbkbnbepmhjaaPx3
import Derived.Test.YtjmbkbnbepmhjaaPx21
import Derived.Test.YtjmbkbnbepmhjaaPx19
import Derived.Test.YtjmbkbnbepmhjaaPx20
import Derived.Test.YtjmbkbnbepmhjaaPx22
import Derived.Test.YtjmbkbnbepmhjaaPx23
import Derived.Test.YtjmbkbnbepmhjaaPx25
import Derived.Test.YtjmbkbnbepmhjaaPx26
section
namespace Go.Proofs.Ytjmbkbnbepmhjaa.Pure
open Go.RowKit Go.Proofs.Ytjmbkbnbepmhjaa.P Go.Proofs.YtjmbkbnbepmhjaaW.PrintWords Go.Proofs.YtjmbkbnbepmhjaaW.PrintLast
set_option linter.unusedVariables false
def same (x y : S50) : Bool := x.f0.toList == y.f0.toList && (x.f1 == y.f1 && (x.f2 == y.f2 && (x.f3 == y.f3 && (x.f4 == y.f4))))
theorem same_iff (x y : S50) : same x y = true ↔ x.f0.toList = y.f0.toList ∧ x.f1 = y.f1 ∧ x.f2 = y.f2 ∧ x.f3 = y.f3 ∧ x.f4 = y.f4 := by
  unfold same; simp only [Bool.and_eq_true, beq_iff_eq]
theorem same_refl (x : S50) : same x x = true := (same_iff x x).mpr ⟨rfl, rfl, rfl, rfl, rfl⟩
def Sames (a b : List S50) : Prop := a.length = b.length ∧ ∀ i : Nat, i < a.length → same (rd_T50 a i) (rd_T50 b i) = true
end Go.Proofs.Ytjmbkbnbepmhjaa.Pure
end
section
namespace Go.Proofs.Ytjmbkbnbepmhjaa.Pure
open Go.RowKit Go.Proofs.Ytjmbkbnbepmhjaa.P Go.Proofs.Ytjmbkbnbepmhjaa.E Go.Proofs.YtjmbkbnbepmhjaaW.PrintWords Go.Proofs.YtjmbkbnbepmhjaaW.PrintLast
set_option linter.unusedVariables false
theorem awake_ev : Ev (fun k => salchowlaw25_awake.f k) true := Ev.of salchowlaw25_awake.mono (k := 40) (by decide +kernel)
theorem drop50 (l : List S50) (i : Nat) (h : i < l.length) : l.drop i = rd_T50 l (i : Int) :: l.drop (i + 1) := by
  rw [List.drop_eq_getElem_cons h]; congr 1; unfold rd_T50; simp [List.getD_eq_getElem?_getD, h]
theorem drop58 (l : List S58) (i : Nat) (h : i < l.length) : l.drop i = rd_T58 l (i : Int) :: l.drop (i + 1) := by
  rw [List.drop_eq_getElem_cons h]; congr 1; unfold rd_T58; simp [List.getD_eq_getElem?_getD, h]
theorem drop63 (l : List S63) (i : Nat) (h : i < l.length) : l.drop i = rd_T63 l (i : Int) :: l.drop (i + 1) := by
  rw [List.drop_eq_getElem_cons h]; congr 1; unfold rd_T63; simp [List.getD_eq_getElem?_getD, h]
theorem up1 (i n : Nat) (hi : i < n) (hn : n ≤ 1000000) : wrap64 ((i : Int) + 1) = ((i + 1 : Nat) : Int) := by
  rw [wid (by omega) (by omega)]; rfl
theorem ev_any {α : Type} {f : Nat → Option α} {p : α → Prop} {c : Prop} [Decidable c] {g : Nat → Option α} (hf : c → ∃ r, Ev f r ∧ p r) (hg : ¬ c → ∃ r, Ev g r ∧ p r) : ∃ r, Ev (fun k => if c then f k else g k) r ∧ p r := by
  by_cases h : c
  · obtain ⟨r, h1, h2⟩ := hf h; exact ⟨r, ev_pos h h1, h2⟩
  · obtain ⟨r, h1, h2⟩ := hg h; exact ⟨r, ev_neg h h1, h2⟩
theorem small_ev (a b : List S50) (s : List S58) : ∃ r : Bool, Ev (fun k => salchowref25_Small.f k a b s) r ∧ (r = true → a.length ≤ 40 ∧ b.length ≤ 40 ∧ s.length ≤ 80) := by
  unfold salchowref25_Small.f
  have stop : ∃ r : Bool, Ev (fun k => salchowref25_Small.j0 k a b s true) r ∧ (r = true → a.length ≤ 40 ∧ b.length ≤ 40 ∧ s.length ≤ 80) := by
    refine ⟨false, ev_round ?_, fun h => absurd h (by simp)⟩
    simp only [salchowref25_Small.j0]
    exact ev_pos (by simp) (ev_end rfl)
  refine ev_any (fun _ => stop) (fun h1 => ev_any (fun _ => stop) (fun h2 => ?_))
  by_cases h3 : (s.length : Int) > 80
  · rw [decide_eq_true h3]; exact stop
  rw [decide_eq_false h3]
  have hl2 : ∃ r : Bool, Ev (fun k => salchowref25_Small.l2 k s 0) r := by
    refine down (P := fun j => ∃ r : Bool, Ev (fun k => salchowref25_Small.l2 k s (j : Int)) r) s.length ?_ ?_ 0 (by omega)
    · refine ⟨true, ev_round ?_⟩
      simp only [salchowref25_Small.l2]
      exact ev_neg (by omega) (ev_end rfl)
    · rintro j hj ⟨r, hr⟩
      by_cases c : (((rd_T58 s j).f1.f0).size : Int) > 40
      · refine ⟨false, ev_round ?_⟩
        simp only [salchowref25_Small.l2]
        exact ev_pos (by omega) (ev_pos (by omega) (ev_pos c (ev_end rfl)))
      · refine ⟨r, ev_round ?_⟩
        simp only [salchowref25_Small.l2]
        refine ev_pos (by omega) (ev_pos (by omega) (ev_neg c ?_))
        rw [up1 j s.length hj (by omega)]; exact hr
  have hl1 : ∃ r : Bool, Ev (fun k => salchowref25_Small.l1 k b s 0) r := by
    refine down (P := fun j => ∃ r : Bool, Ev (fun k => salchowref25_Small.l1 k b s (j : Int)) r) b.length ?_ ?_ 0 (by omega)
    · obtain ⟨r, hr⟩ := hl2
      refine ⟨r, ev_round ?_⟩
      simp only [salchowref25_Small.l1]
      exact ev_neg (by omega) hr
    · rintro j hj ⟨r, hr⟩
      by_cases c : (((rd_T50 b j).f0).size : Int) > 40
      · refine ⟨false, ev_round ?_⟩
        simp only [salchowref25_Small.l1]
        exact ev_pos (by omega) (ev_pos (by omega) (ev_pos c (ev_end rfl)))
      · refine ⟨r, ev_round ?_⟩
        simp only [salchowref25_Small.l1]
        refine ev_pos (by omega) (ev_pos (by omega) (ev_neg c ?_))
        rw [up1 j b.length hj (by omega)]; exact hr
  have hl0 : ∃ r : Bool, Ev (fun k => salchowref25_Small.l0 k a b s 0) r := by
    refine down (P := fun j => ∃ r : Bool, Ev (fun k => salchowref25_Small.l0 k a b s (j : Int)) r) a.length ?_ ?_ 0 (by omega)
    · obtain ⟨r, hr⟩ := hl1
      refine ⟨r, ev_round ?_⟩
      simp only [salchowref25_Small.l0]
      exact ev_neg (by omega) hr
    · rintro j hj ⟨r, hr⟩
      by_cases c : (((rd_T50 a j).f0).size : Int) > 40
      · refine ⟨false, ev_round ?_⟩
        simp only [salchowref25_Small.l0]
        exact ev_pos (by omega) (ev_pos (by omega) (ev_pos c (ev_end rfl)))
      · refine ⟨r, ev_round ?_⟩
        simp only [salchowref25_Small.l0]
        refine ev_pos (by omega) (ev_pos (by omega) (ev_neg c ?_))
        rw [up1 j a.length hj (by omega)]; exact hr
  obtain ⟨r, hr⟩ := hl0
  refine ⟨r, ev_round ?_, fun _ => by omega⟩
  simp only [salchowref25_Small.j0]
  exact ev_neg (by simp) hr
def costI (op : Int) : Int := if op = 1 then 0 else if op = 2 then 1 else if op = 4 then 2 else if op = 5 then 2 else if op = 3 then 3 else -1
theorem cost_ev (op : Int) : Ev (fun k => compare_Cost.f k op) (costI op) := by
  unfold compare_Cost.f costI
  by_cases h1 : op = 1
  · rw [if_pos h1]; exact ev_pos h1 (ev_end rfl)
  rw [if_neg h1]; refine ev_neg h1 ?_
  by_cases h2 : op = 2
  · rw [if_pos h2]; exact ev_pos h2 (ev_end rfl)
  rw [if_neg h2]; refine ev_neg h2 ?_
  by_cases h4 : op = 4
  · subst h4; refine ev_pos rfl (ev_round ?_); simp only [compare_Cost.j0]; exact ev_pos (by simp) (ev_end (by simp))
  rw [if_neg h4]; refine ev_neg h4 (ev_round ?_); simp only [compare_Cost.j0]
  by_cases h5 : op = 5
  · subst h5; exact ev_pos (by simp) (ev_end (by simp))
  rw [if_neg h5]; refine ev_neg (by simpa using h5) ?_
  exact ev_ite (fun h => ev_end (by rw [if_pos h])) (fun h => ev_end (by rw [if_neg h]))
theorem refcost_ev (op : Int) : Ev (fun k => salchowref25_Cost.f k op) (costI op) := by
  unfold salchowref25_Cost.f costI
  by_cases h1 : op = 1
  · rw [if_pos h1]; exact ev_pos h1 (ev_end rfl)
  rw [if_neg h1]; refine ev_neg h1 ?_
  by_cases h2 : op = 2
  · rw [if_pos h2]; exact ev_pos h2 (ev_end rfl)
  rw [if_neg h2]; refine ev_neg h2 ?_
  by_cases h4 : op = 4
  · subst h4; refine ev_pos rfl (ev_round ?_); simp only [salchowref25_Cost.j0]; exact ev_pos (by simp) (ev_end (by simp))
  rw [if_neg h4]; refine ev_neg h4 (ev_round ?_); simp only [salchowref25_Cost.j0]
  by_cases h5 : op = 5
  · subst h5; exact ev_pos (by simp) (ev_end (by simp))
  rw [if_neg h5]; refine ev_neg (by simpa using h5) ?_
  exact ev_ite (fun h => ev_end (by rw [if_pos h])) (fun h => ev_end (by rw [if_neg h]))
def full (x : S50) : Bool := !((x.f0.toList) == ([] : List UInt8)) || (!(x.f1 == 0) || (x.f2 || (x.f3 || x.f4)))
def bad (x : S63) : Bool := decide (costI x.f0 < 0) || ((decide (x.f0 = 1) || decide (x.f0 = 5)) && full x.f1)
def checkL (s : List S63) : Int := if s.any bad = true then 1 else 0
def checkV (s : List S63) : Int := if (s.length : Int) > 60 then 6 else checkL s
theorem check_ev (s : List S63) : Ev (fun k => compare_check.f k s) (checkV s) := by
  unfold compare_check.f checkV
  refine ev_ite (fun h => by rw [if_pos h]; exact ev_end rfl) (fun h => ?_)
  rw [if_neg h]
  have key : Ev (fun k => compare_check.l0 k s (s.length : Int) ((0 : Nat) : Int)) (checkL (s.drop 0)) := by
    refine down (P := fun j => Ev (fun k => compare_check.l0 k s (s.length : Int) (j : Int)) (checkL (s.drop j))) s.length ?_ ?_ 0 (by omega)
    · refine ev_round ?_
      simp only [compare_check.l0, List.drop_length]
      exact ev_neg (by omega) (ev_end rfl)
    · intro j hj ih
      refine ev_round ?_
      simp only [compare_check.l0]
      refine ev_pos (by omega) (ev_pos (by omega) (ev_pos (by omega) (ev_call (cost_ev _) ?_)))
      rw [up1 j s.length hj (by omega), drop63 s j hj]
      have go : bad (rd_T63 s j) = false → checkL (rd_T63 s j :: s.drop (j + 1)) = checkL (s.drop (j + 1)) := fun e => by unfold checkL; rw [List.any_cons, e, Bool.false_or]
      have st : bad (rd_T63 s j) = true → checkL (rd_T63 s j :: s.drop (j + 1)) = 1 := fun e => by unfold checkL; rw [List.any_cons, e, Bool.true_or, if_pos rfl]
      by_cases c : costI (rd_T63 s j).f0 < 0
      · exact ev_pos c (ev_end (st (by unfold bad; simp [c])).symm)
      refine ev_neg c ?_
      by_cases h1 : (rd_T63 s j).f0 = 1
      · refine ev_pos h1 ?_
        by_cases f : full (rd_T63 s j).f1 = true
        · exact ev_pos f (ev_end (st (by unfold bad; simp [h1, f])).symm)
        · refine ev_neg f ?_
          rw [go (by unfold bad; simp [h1, f]; decide)]; exact ih
      refine ev_neg h1 ?_
      by_cases h5 : (rd_T63 s j).f0 = 5
      · refine ev_pos h5 ?_
        by_cases f : full (rd_T63 s j).f1 = true
        · exact ev_pos f (ev_end (st (by unfold bad; simp [h5, f])).symm)
        · refine ev_neg f ?_
          rw [go (by unfold bad; simp [h5, f]; decide)]; exact ih
      refine ev_neg h5 ?_
      rw [go (by unfold bad; simp [h1, h5]; omega)]; exact ih
  exact key
end Go.Proofs.Ytjmbkbnbepmhjaa.Pure
end
section
namespace Go.Proofs.Ytjmbkbnbepmhjaa.Pure
open Go.RowKit Go.Proofs.Ytjmbkbnbepmhjaa.P Go.Proofs.Ytjmbkbnbepmhjaa.E Go.Proofs.YtjmbkbnbepmhjaaW.PrintWords Go.Proofs.YtjmbkbnbepmhjaaW.PrintLast
set_option linter.unusedVariables false
def zit : S50 := ⟨⟨#[]⟩, 0, false, false, false⟩
def fitR : List S63 → List S50 → Int
  | [], [] => 0
  | [], _ :: _ => 7
  | s :: ss, a => if s.f0 = 4 then fitR ss a else match a with
    | [] => 7
    | x :: a' => if s.f0 = 2 ∨ s.f0 = 3 then (if opOf x s.f1 = s.f0 then fitR ss a' else 7) else fitR ss a'
def appR : List S63 → List S50 → List S50
  | [], _ => []
  | s :: ss, a => if s.f0 = 4 then s.f1 :: appR ss a else match a with
    | [] => []
    | x :: a' => if s.f0 = 1 then x :: appR ss a' else if s.f0 = 2 ∨ s.f0 = 3 then s.f1 :: appR ss a' else appR ss a'
def invR : List S63 → List S50 → List S63
  | [], _ => []
  | s :: ss, a => if s.f0 = 4 then ⟨5, zit⟩ :: invR ss a else match a with
    | [] => []
    | x :: a' => if s.f0 = 1 then ⟨1, zit⟩ :: invR ss a' else if s.f0 = 5 then ⟨4, x⟩ :: invR ss a' else ⟨s.f0, x⟩ :: invR ss a'
theorem fitR_ins {s : S63} (ss : List S63) (a : List S50) (h : s.f0 = 4) : fitR (s :: ss) a = fitR ss a := by rw [fitR.eq_def]; simp only; rw [if_pos h]
theorem fitR_end {s : S63} (ss : List S63) (h : s.f0 ≠ 4) : fitR (s :: ss) [] = 7 := by rw [fitR.eq_def]; simp only; rw [if_neg h]
theorem fitR_two {s : S63} (ss : List S63) (x : S50) (a : List S50) (h : s.f0 = 2 ∨ s.f0 = 3) : fitR (s :: ss) (x :: a) = if opOf x s.f1 = s.f0 then fitR ss a else 7 := by
  rw [fitR.eq_def]; simp only; rw [if_neg (by omega), if_pos h]
theorem fitR_one {s : S63} (ss : List S63) (x : S50) (a : List S50) (h4 : s.f0 ≠ 4) (h : ¬ (s.f0 = 2 ∨ s.f0 = 3)) : fitR (s :: ss) (x :: a) = fitR ss a := by
  rw [fitR.eq_def]; simp only; rw [if_neg h4, if_neg h]
theorem appR_ins {s : S63} (ss : List S63) (a : List S50) (h : s.f0 = 4) : appR (s :: ss) a = s.f1 :: appR ss a := by rw [appR.eq_def]; simp only; rw [if_pos h]
theorem appR_keep {s : S63} (ss : List S63) (x : S50) (a : List S50) (h : s.f0 = 1) : appR (s :: ss) (x :: a) = x :: appR ss a := by
  rw [appR.eq_def]; simp only; rw [if_neg (by omega), if_pos h]
theorem appR_two {s : S63} (ss : List S63) (x : S50) (a : List S50) (h : s.f0 = 2 ∨ s.f0 = 3) : appR (s :: ss) (x :: a) = s.f1 :: appR ss a := by
  rw [appR.eq_def]; simp only; rw [if_neg (by omega), if_neg (by omega), if_pos h]
theorem appR_del {s : S63} (ss : List S63) (x : S50) (a : List S50) (h : s.f0 ≠ 4 ∧ s.f0 ≠ 1 ∧ s.f0 ≠ 2 ∧ s.f0 ≠ 3) : appR (s :: ss) (x :: a) = appR ss a := by
  rw [appR.eq_def]; simp only; rw [if_neg (by omega), if_neg (by omega), if_neg (by omega)]
theorem invR_ins {s : S63} (ss : List S63) (a : List S50) (h : s.f0 = 4) : invR (s :: ss) a = ⟨5, zit⟩ :: invR ss a := by rw [invR.eq_def]; simp only; rw [if_pos h]
theorem invR_keep {s : S63} (ss : List S63) (x : S50) (a : List S50) (h : s.f0 = 1) : invR (s :: ss) (x :: a) = ⟨1, zit⟩ :: invR ss a := by
  rw [invR.eq_def]; simp only; rw [if_neg (by omega), if_pos h]
theorem invR_del {s : S63} (ss : List S63) (x : S50) (a : List S50) (h : s.f0 = 5) : invR (s :: ss) (x :: a) = ⟨4, x⟩ :: invR ss a := by
  rw [invR.eq_def]; simp only; rw [if_neg (by omega), if_neg (by omega), if_pos h]
theorem invR_two {s : S63} (ss : List S63) (x : S50) (a : List S50) (h : s.f0 ≠ 4 ∧ s.f0 ≠ 1 ∧ s.f0 ≠ 5) : invR (s :: ss) (x :: a) = ⟨s.f0, x⟩ :: invR ss a := by
  rw [invR.eq_def]; simp only; rw [if_neg (by omega), if_neg (by omega), if_neg (by omega)]
def fitsV (a : List S50) (s : List S63) : Int := if (a.length : Int) > 30 then 6 else if checkV s = 0 then fitR s a else checkV s
theorem checkV_zero {s : List S63} (h : checkV s = 0) : s.length ≤ 60 ∧ s.any bad = false := by
  unfold checkV checkL at h
  split at h
  · omega
  · split at h
    · omega
    · rename_i h1 h2; exact ⟨by omega, by simpa using h2⟩
theorem fits_ev (a : List S50) (s : List S63) : Ev (fun k => compare_fits.f k a s) (fitsV a s) := by
  unfold compare_fits.f fitsV
  refine ev_ite (fun h => by rw [if_pos h]; exact ev_end rfl) (fun h => ?_)
  rw [if_neg h]
  refine ev_call (check_ev s) ?_
  refine ev_ite (fun h1 => ?_) (fun h1 => by rw [if_neg h1]; exact ev_end rfl)
  rw [if_pos h1]
  have hs := (checkV_zero h1).1
  have key : ∀ i : Nat, i ≤ a.length → Ev (fun k => compare_fits.l0 k a (i : Int) s (s.length : Int) ((0 : Nat) : Int)) (fitR (s.drop 0) (a.drop i)) := by
    refine down (P := fun j => ∀ i : Nat, i ≤ a.length → Ev (fun k => compare_fits.l0 k a (i : Int) s (s.length : Int) (j : Int)) (fitR (s.drop j) (a.drop i))) s.length ?_ ?_ 0 (by omega)
    · intro i hi
      refine ev_round ?_
      simp only [compare_fits.l0, List.drop_length]
      refine ev_neg (by omega) ?_
      by_cases c : i < a.length
      · rw [drop50 a i c]; exact ev_pos (by omega) (ev_end rfl)
      · rw [List.drop_of_length_le (by omega)]; exact ev_neg (by omega) (ev_end rfl)
    · intro j hj ih i hi
      refine ev_round ?_
      simp only [compare_fits.l0]
      refine ev_pos (by omega) (ev_pos (by omega) (ev_pos (by omega) ?_))
      rw [up1 j s.length hj (by omega), drop63 s j hj]
      by_cases h4 : (rd_T63 s j).f0 = 4
      · rw [fitR_ins _ _ h4]; exact ev_pos h4 (ih i hi)
      refine ev_neg h4 ?_
      by_cases c : i = a.length
      · refine ev_pos (by omega) ?_
        have e0 : a.drop i = [] := List.drop_of_length_le (by omega)
        rw [e0, fitR_end _ h4]; exact ev_end rfl
      refine ev_neg (by omega) ?_
      have hi' : i < a.length := by omega
      rw [drop50 a i hi']
      have ih1 := ih (i + 1) (by omega)
      rw [up1 i a.length hi' (by omega)]
      by_cases h2 : (rd_T63 s j).f0 = 2
      · rw [fitR_two _ _ _ (.inl h2)]
        refine ev_pos h2 (ev_pos (by omega) (ev_pos (by omega) (ev_const (taking_is _ _) ?_)))
        refine ev_ite (fun h => by rw [if_pos h]; exact ih1) (fun h => by rw [if_neg h]; exact ev_end rfl)
      refine ev_neg h2 ?_
      by_cases h3 : (rd_T63 s j).f0 = 3
      · rw [fitR_two _ _ _ (.inr h3)]
        refine ev_pos h3 (ev_pos (by omega) (ev_pos (by omega) (ev_const (taking_is _ _) ?_)))
        refine ev_ite (fun h => by rw [if_pos h]; exact ih1) (fun h => by rw [if_neg h]; exact ev_end rfl)
      refine ev_neg h3 ?_
      rw [fitR_one _ _ _ h4 (by omega)]
      exact ih1
  exact key 0 (by omega)
theorem fitR_cases {s : S63} {ss : List S63} {a : List S50} (h : fitR (s :: ss) a = 0) (h4 : s.f0 ≠ 4) : ∃ x a', a = x :: a' ∧ fitR ss a' = 0 ∧ (s.f0 = 2 ∨ s.f0 = 3 → opOf x s.f1 = s.f0) := by
  cases a with
  | nil => rw [fitR_end _ h4] at h; omega
  | cons x a =>
    refine ⟨x, a, rfl, ?_⟩
    by_cases h2 : s.f0 = 2 ∨ s.f0 = 3
    · rw [fitR_two _ _ _ h2] at h
      by_cases c : opOf x s.f1 = s.f0
      · rw [if_pos c] at h; exact ⟨h, fun _ => c⟩
      · rw [if_neg c] at h; omega
    · rw [fitR_one _ _ _ h4 h2] at h; exact ⟨h, fun e => absurd e h2⟩
theorem drop_lt {α : Type} {l : List α} {i : Nat} {x : α} {r : List α} (h : l.drop i = x :: r) : i < l.length := by
  have := congrArg List.length h
  simp at this; omega
def applyV (a : List S50) (s : List S63) : List S50 × Int := if fitsV a s = 0 then (if ((appR s a).length : Int) > 30 then ([], 6) else (appR s a, 0)) else ([], fitsV a s)
theorem fitsV_zero {a : List S50} {s : List S63} (h : fitsV a s = 0) : a.length ≤ 30 ∧ s.length ≤ 60 ∧ s.any bad = false ∧ fitR s a = 0 := by
  unfold fitsV at h
  split at h
  · omega
  · split at h
    · rename_i h1 h2; exact ⟨by omega, (checkV_zero h2).1, (checkV_zero h2).2, h⟩
    · omega
theorem apply_ev (a : List S50) (s : List S63) : Ev (fun k => compare_Apply.f k a s) (applyV a s) := by
  unfold compare_Apply.f applyV
  refine ev_call (fits_ev a s) ?_
  refine ev_ite (fun h => ?_) (fun h => by rw [if_neg h]; exact ev_end rfl)
  rw [if_pos h]
  obtain ⟨ha, hs, _, hf⟩ := fitsV_zero h
  have key : ∀ (i : Nat) (acc : List S50), acc.length ≤ 0 → i ≤ a.length → fitR (s.drop 0) (a.drop i) = 0 → Ev (fun k => compare_Apply.l0 k a acc (i : Int) s (s.length : Int) ((0 : Nat) : Int)) (if ((acc ++ appR (s.drop 0) (a.drop i)).length : Int) > 30 then ([], 6) else (acc ++ appR (s.drop 0) (a.drop i), 0)) := by
    refine down (P := fun j => ∀ (i : Nat) (acc : List S50), acc.length ≤ j → i ≤ a.length → fitR (s.drop j) (a.drop i) = 0 → Ev (fun k => compare_Apply.l0 k a acc (i : Int) s (s.length : Int) (j : Int)) (if ((acc ++ appR (s.drop j) (a.drop i)).length : Int) > 30 then ([], 6) else (acc ++ appR (s.drop j) (a.drop i), 0))) s.length ?_ ?_ 0 (by omega)
    · intro i acc hc hi hf
      refine ev_round ?_
      simp only [compare_Apply.l0, List.drop_length]
      refine ev_neg (by omega) ?_
      simp only [appR, List.append_nil]
      exact ev_ite (fun c => by rw [if_pos c]; exact ev_end rfl) (fun c => by rw [if_neg c]; exact ev_end rfl)
    · intro j hj ih i acc hc hi hf
      rw [drop63 s j hj] at hf ⊢
      refine ev_round ?_
      simp only [compare_Apply.l0]
      refine ev_pos (by omega) (ev_pos (by omega) (ev_pos (by omega) ?_))
      rw [up1 j s.length hj (by omega)]
      by_cases h4 : (rd_T63 s j).f0 = 4
      · refine ev_neg (by omega) (ev_neg (by omega) (ev_neg (by omega) (ev_round ?_)))
        simp only [compare_Apply.j1]
        refine ev_pos (by simp [h4]) (ev_pos (by omega) (ev_const rfl (ev_pos h4 ?_)))
        rw [fitR_ins _ _ h4] at hf
        rw [appR_ins _ _ h4]
        rw [up1 j s.length hj (by omega)]
        have := ih i (acc ++ [(rd_T63 s j).f1]) (by simp; omega) hi hf
        rw [List.append_assoc] at this
        exact this
      obtain ⟨x, a', e, hf', h23⟩ := fitR_cases hf h4
      have hi' := drop_lt e
      rw [drop50 a i hi'] at e
      obtain ⟨rfl, rfl⟩ := List.cons.inj e
      rw [drop50 a i hi']
      have u := up1 i a.length hi' (by omega)
      by_cases h1 : (rd_T63 s j).f0 = 1
      · refine ev_pos h1 (ev_pos (by omega) (ev_pos (by omega) (ev_pos (by omega) (ev_const rfl (ev_neg h4 ?_)))))
        rw [appR_keep _ _ _ h1, u]
        have := ih (i + 1) (acc ++ [rd_T50 a i]) (by simp; omega) (by omega) hf'
        rw [List.append_assoc] at this
        exact this
      refine ev_neg h1 ?_
      by_cases h2 : (rd_T63 s j).f0 = 2
      · refine ev_pos h2 (ev_round ?_)
        simp only [compare_Apply.j1]
        refine ev_pos (by simp [h2]) (ev_pos (by omega) (ev_const rfl (ev_neg h4 ?_)))
        rw [appR_two _ _ _ (.inl h2), u, up1 j s.length hj (by omega)]
        have := ih (i + 1) (acc ++ [(rd_T63 s j).f1]) (by simp; omega) (by omega) hf'
        rw [List.append_assoc] at this
        exact this
      refine ev_neg h2 ?_
      by_cases h3 : (rd_T63 s j).f0 = 3
      · refine ev_pos h3 (ev_round ?_)
        simp only [compare_Apply.j1]
        refine ev_pos (by simp [h3]) (ev_pos (by omega) (ev_const rfl (ev_neg h4 ?_)))
        rw [appR_two _ _ _ (.inr h3), u, up1 j s.length hj (by omega)]
        have := ih (i + 1) (acc ++ [(rd_T63 s j).f1]) (by simp; omega) (by omega) hf'
        rw [List.append_assoc] at this
        exact this
      refine ev_neg h3 (ev_round ?_)
      simp only [compare_Apply.j1]
      refine ev_neg (by simp [h4]) (ev_neg h4 ?_)
      rw [appR_del _ _ _ ⟨h4, h1, h2, h3⟩, u, up1 j s.length hj (by omega)]
      exact ih (i + 1) acc (by omega) (by omega) hf'
  exact key 0 [] (by simp) (by omega) hf
end Go.Proofs.Ytjmbkbnbepmhjaa.Pure
end
section
namespace Go.Proofs.Ytjmbkbnbepmhjaa.Pure
open Go.RowKit Go.Proofs.Ytjmbkbnbepmhjaa.P Go.Proofs.Ytjmbkbnbepmhjaa.E Go.Proofs.YtjmbkbnbepmhjaaW.PrintWords Go.Proofs.YtjmbkbnbepmhjaaW.PrintLast
set_option linter.unusedVariables false
theorem bad_op {s : S63} (h : bad s = false) : s.f0 = 1 ∨ s.f0 = 2 ∨ s.f0 = 3 ∨ s.f0 = 4 ∨ s.f0 = 5 := by
  unfold bad costI at h
  simp only [Bool.or_eq_false_iff, decide_eq_false_iff_not] at h
  have h0 := h.1
  by_cases h1 : s.f0 = 1
  · exact .inl h1
  by_cases h2 : s.f0 = 2
  · exact .inr (.inl h2)
  by_cases h4 : s.f0 = 4
  · exact .inr (.inr (.inr (.inl h4)))
  by_cases h5 : s.f0 = 5
  · exact .inr (.inr (.inr (.inr h5)))
  by_cases h3 : s.f0 = 3
  · exact .inr (.inr (.inl h3))
  rw [if_neg h1, if_neg h2, if_neg h4, if_neg h5, if_neg h3] at h0
  omega
theorem any_drop {s : List S63} (h : s.any bad = false) (j : Nat) (hj : j < s.length) : bad (rd_T63 s j) = false := by
  have e := drop63 s j hj
  have hm : rd_T63 s j ∈ s := List.mem_of_mem_drop (i := j) (by rw [e]; simp)
  rw [List.any_eq_false] at h
  simpa using h _ hm
def invertV (a : List S50) (s : List S63) : List S63 × Int := if fitsV a s = 0 then (invR s a, 0) else ([], fitsV a s)
theorem invert_ev (a : List S50) (s : List S63) : Ev (fun k => compare_Invert.f k a s) (invertV a s) := by
  unfold compare_Invert.f invertV
  refine ev_call (fits_ev a s) ?_
  refine ev_ite (fun h => ?_) (fun h => by rw [if_neg h]; exact ev_end rfl)
  rw [if_pos h]
  obtain ⟨ha, hs, hb, hf⟩ := fitsV_zero h
  have key : ∀ (i : Nat) (acc : List S63), acc.length ≤ 0 → i ≤ a.length → fitR (s.drop 0) (a.drop i) = 0 → Ev (fun k => compare_Invert.l0 k a acc (i : Int) s (s.length : Int) ((0 : Nat) : Int)) (acc ++ invR (s.drop 0) (a.drop i), 0) := by
    refine down (P := fun j => ∀ (i : Nat) (acc : List S63), acc.length ≤ j → i ≤ a.length → fitR (s.drop j) (a.drop i) = 0 → Ev (fun k => compare_Invert.l0 k a acc (i : Int) s (s.length : Int) (j : Int)) (acc ++ invR (s.drop j) (a.drop i), 0)) s.length ?_ ?_ 0 (by omega)
    · intro i acc hc hi hf
      refine ev_round ?_
      simp only [compare_Invert.l0, List.drop_length]
      refine ev_neg (by omega) ?_
      simp only [invR, List.append_nil]
      exact ev_end rfl
    · intro j hj ih i acc hc hi hf
      rw [drop63 s j hj] at hf ⊢
      refine ev_round ?_
      simp only [compare_Invert.l0]
      refine ev_pos (by omega) (ev_pos (by omega) (ev_pos (by omega) ?_))
      have uj := up1 j s.length hj (by omega)
      by_cases h4 : (rd_T63 s j).f0 = 4
      · refine ev_neg (by omega) (ev_round ?_)
        simp only [compare_Invert.j1]
        refine ev_neg (by simp [h4]) (ev_pos h4 (ev_pos (by omega) (ev_const rfl (ev_pos h4 ?_))))
        rw [fitR_ins _ _ h4] at hf
        rw [invR_ins _ _ h4, uj]
        have := ih i (acc ++ [⟨5, zit⟩]) (by simp; omega) hi hf
        rw [List.append_assoc] at this
        exact this
      obtain ⟨x, a', e, hf', h23⟩ := fitR_cases hf h4
      clear hf h23
      have hi' := drop_lt e
      rw [drop50 a i hi'] at e
      obtain ⟨rfl, rfl⟩ := List.cons.inj e
      rw [drop50 a i hi']
      have u := up1 i a.length hi' (by omega)
      by_cases h2 : (rd_T63 s j).f0 = 2
      · refine ev_pos h2 (ev_round ?_)
        simp only [compare_Invert.j1]
        refine ev_pos (by simp [h2]) (ev_pos (by omega) (ev_pos (by omega) (ev_pos (by omega) (ev_const rfl (ev_neg h4 ?_)))))
        rw [invR_two _ _ _ ⟨h4, by omega, by omega⟩, u, uj]
        have := ih (i + 1) (acc ++ [⟨(rd_T63 s j).f0, rd_T50 a i⟩]) (by simp; omega) (by omega) hf'
        rw [List.append_assoc] at this
        exact this
      refine ev_neg h2 (ev_round ?_)
      simp only [compare_Invert.j1]
      by_cases h3 : (rd_T63 s j).f0 = 3
      · refine ev_pos (by simp [h3]) (ev_pos (by omega) (ev_pos (by omega) (ev_pos (by omega) (ev_const rfl (ev_neg h4 ?_)))))
        rw [invR_two _ _ _ ⟨h4, by omega, by omega⟩, u, uj]
        have := ih (i + 1) (acc ++ [⟨(rd_T63 s j).f0, rd_T50 a i⟩]) (by simp; omega) (by omega) hf'
        rw [List.append_assoc] at this
        exact this
      refine ev_neg (by simp [h3]) (ev_neg h4 ?_)
      by_cases h5 : (rd_T63 s j).f0 = 5
      · refine ev_pos h5 (ev_pos (by omega) (ev_pos (by omega) (ev_pos (by omega) (ev_const rfl (ev_neg h4 ?_)))))
        rw [invR_del _ _ _ h5, u, uj]
        have := ih (i + 1) (acc ++ [⟨4, rd_T50 a i⟩]) (by simp; omega) (by omega) hf'
        rw [List.append_assoc] at this
        exact this
      have h1 : (rd_T63 s j).f0 = 1 := by
        have hop := bad_op (any_drop hb j hj)
        rcases hop with e | e | e | e | e
        · exact e
        · exact absurd e h2
        · exact absurd e h3
        · exact absurd e h4
        · exact absurd e h5
      refine ev_neg h5 (ev_pos (by omega) (ev_const rfl (ev_neg h4 ?_)))
      rw [invR_keep _ _ _ h1, u, uj]
      have := ih (i + 1) (acc ++ [⟨1, zit⟩]) (by simp; omega) (by omega) hf'
      rw [List.append_assoc] at this
      rw [h1]
      exact this
  exact key 0 [] (by simp) (by omega) hf
instance (a b : List S50) : Decidable (Sames a b) := by unfold Sames; infer_instance
theorem ne_same (x y : S50) : (!(((x).f0).toList == ((y).f0).toList) || (!(x.f1 == y.f1) || (!(x.f2 == y.f2) || (!(x.f3 == y.f3) || (!(x.f4 == y.f4)))))) = !same x y := by
  unfold same; simp only [Bool.not_and]
theorem same_ev (a b : List S50) (ha : a.length ≤ 1000) : Ev (fun k => salchowref25_Same.f k a b) (decide (Sames a b)) := by
  unfold salchowref25_Same.f
  by_cases hl : a.length = b.length
  · refine ev_pos (by omega) ?_
    have key : ∀ p : Bool, (p = true ↔ (∀ i : Nat, 0 ≤ i → i < a.length → same (rd_T50 a i) (rd_T50 b i) = true)) → Ev (fun k => salchowref25_Same.l0 k a b ((0 : Nat) : Int)) p := by
      refine down (P := fun j => ∀ p : Bool, (p = true ↔ (∀ i : Nat, j ≤ i → i < a.length → same (rd_T50 a i) (rd_T50 b i) = true)) → Ev (fun k => salchowref25_Same.l0 k a b (j : Int)) p) a.length ?_ ?_ 0 (by omega)
      · intro p hp
        refine ev_round ?_
        simp only [salchowref25_Same.l0]
        refine ev_neg (by omega) (ev_end ?_)
        exact (hp.mpr (fun i h1 h2 => by omega)).symm
      · intro j hj ih p hp
        refine ev_round ?_
        simp only [salchowref25_Same.l0]
        refine ev_pos (by omega) (ev_pos (by omega) (ev_pos (by omega) ?_))
        rw [ne_same, up1 j a.length hj (by omega)]
        by_cases c : same (rd_T50 a j) (rd_T50 b j) = true
        · refine ev_neg (by simp [c]) (ih p (hp.trans ⟨fun h i h1 h2 => h i (by omega) h2, fun h i h1 h2 => ?_⟩))
          by_cases e : i = j
          · subst e; exact c
          · exact h i (by omega) h2
        · refine ev_pos (by simpa using c) (ev_end ?_)
          cases p with
          | false => rfl
          | true => exact absurd (hp.mp rfl j (by omega) hj) c
    exact key _ (by rw [decide_eq_true_iff]; exact ⟨fun h i _ hi => h.2 i hi, fun h => ⟨hl, fun i hi => h i (by omega) hi⟩⟩)
  · refine ev_neg (by omega) (ev_end ?_)
    rw [eq_comm, decide_eq_false_iff_not]
    exact fun h => hl h.1
theorem sames_refl (a : List S50) : Sames a a := ⟨rfl, fun i _ => same_refl _⟩
theorem sameSelf_ev (a : List S50) (ha : a.length ≤ 1000) : Ev (fun k => salchowref25_Same.f k a a) true := by
  have := same_ev a a ha
  rwa [decide_eq_true (sames_refl a)] at this
theorem sameSteps_ev (a : List S58) (ha : a.length ≤ 1000) : Ev (fun k => salchowref25_SameSteps.f k a a) true := by
  unfold salchowref25_SameSteps.f
  refine ev_pos rfl ?_
  have key : Ev (fun k => salchowref25_SameSteps.l0 k a a ((0 : Nat) : Int)) true := by
    refine down (P := fun j => Ev (fun k => salchowref25_SameSteps.l0 k a a (j : Int)) true) a.length ?_ ?_ 0 (by omega)
    · refine ev_round ?_
      simp only [salchowref25_SameSteps.l0]
      exact ev_neg (by omega) (ev_end rfl)
    · intro j hj ih
      refine ev_round ?_
      simp only [salchowref25_SameSteps.l0]
      refine ev_pos (by omega) (ev_pos (by omega) (ev_pos (by omega) (ev_neg (by simp) ?_)))
      rw [up1 j a.length hj (by omega)]; exact ih
  exact key
def toRef (x : S63) : S58 := ⟨x.f0, x.f1⟩
def ofRef (x : S58) : S63 := ⟨x.f0, x.f1⟩
theorem theirs_ev (s : List S63) (hs : s.length ≤ 1000) : Ev (fun k => salchowlaw25_theirs.f k s) (s.map toRef) := by
  unfold salchowlaw25_theirs.f
  have key : ∀ acc : List S58, acc.length ≤ 0 → Ev (fun k => salchowlaw25_theirs.l0 k s acc ((0 : Nat) : Int)) (acc ++ (s.drop 0).map toRef) := by
    refine down (P := fun j => ∀ acc : List S58, acc.length ≤ j → Ev (fun k => salchowlaw25_theirs.l0 k s acc (j : Int)) (acc ++ (s.drop j).map toRef)) s.length ?_ ?_ 0 (by omega)
    · intro acc hc
      refine ev_round ?_
      simp only [salchowlaw25_theirs.l0, List.drop_length]
      exact ev_neg (by omega) (ev_end (by simp))
    · intro j hj ih acc hc
      refine ev_round ?_
      simp only [salchowlaw25_theirs.l0]
      refine ev_pos (by omega) (ev_pos (by omega) (ev_pos (by omega) ?_))
      rw [up1 j s.length hj (by omega), drop63 s j hj, List.map_cons]
      have := ih (acc ++ [toRef (rd_T63 s j)]) (by simp; omega)
      rw [List.append_assoc] at this
      exact this
  exact key [] (by simp)
theorem ours_ev (s : List S58) (hs : s.length ≤ 1000) : Ev (fun k => salchowlaw25_ours.f k s) (s.map ofRef) := by
  unfold salchowlaw25_ours.f
  have key : ∀ acc : List S63, acc.length ≤ 0 → Ev (fun k => salchowlaw25_ours.l0 k s acc ((0 : Nat) : Int)) (acc ++ (s.drop 0).map ofRef) := by
    refine down (P := fun j => ∀ acc : List S63, acc.length ≤ j → Ev (fun k => salchowlaw25_ours.l0 k s acc (j : Int)) (acc ++ (s.drop j).map ofRef)) s.length ?_ ?_ 0 (by omega)
    · intro acc hc
      refine ev_round ?_
      simp only [salchowlaw25_ours.l0, List.drop_length]
      exact ev_neg (by omega) (ev_end (by simp))
    · intro j hj ih acc hc
      refine ev_round ?_
      simp only [salchowlaw25_ours.l0]
      refine ev_pos (by omega) (ev_pos (by omega) (ev_pos (by omega) ?_))
      rw [up1 j s.length hj (by omega), drop58 s j hj, List.map_cons]
      have := ih (acc ++ [ofRef (rd_T58 s j)]) (by simp; omega)
      rw [List.append_assoc] at this
      exact this
  exact key [] (by simp)
end Go.Proofs.Ytjmbkbnbepmhjaa.Pure
end
section
namespace Go.Proofs.Ytjmbkbnbepmhjaa.Pure
open Go.RowKit Go.Proofs.Ytjmbkbnbepmhjaa.P Go.Proofs.Ytjmbkbnbepmhjaa.E Go.Proofs.YtjmbkbnbepmhjaaW.PrintWords Go.Proofs.YtjmbkbnbepmhjaaW.PrintLast
set_option linter.unusedVariables false
theorem rd_of (s : List S58) (j : Nat) (hj : j < s.length) : rd_T63 (s.map ofRef) j = ofRef (rd_T58 s j) := by
  unfold rd_T63 rd_T58; simp [List.getD_eq_getElem?_getD, hj]
theorem drop_of (s : List S58) (j : Nat) (hj : j < s.length) : (s.map ofRef).drop j = ofRef (rd_T58 s j) :: (s.map ofRef).drop (j + 1) := by
  rw [drop63 _ j (by simpa using hj), rd_of s j hj]
theorem legal_ev (s : List S58) : Ev (fun k => salchowref25_Legal.f k s) (checkV (s.map ofRef)) := by
  unfold salchowref25_Legal.f checkV
  rw [List.length_map]
  refine ev_ite (fun h => by rw [if_pos h]; exact ev_end rfl) (fun h => ?_)
  rw [if_neg h]
  have key : Ev (fun k => salchowref25_Legal.l0 k s ((0 : Nat) : Int)) (checkL ((s.map ofRef).drop 0)) := by
    refine down (P := fun j => Ev (fun k => salchowref25_Legal.l0 k s (j : Int)) (checkL ((s.map ofRef).drop j))) s.length ?_ ?_ 0 (by omega)
    · refine ev_round ?_
      have e : (s.map ofRef).drop s.length = [] := List.drop_of_length_le (by simp)
      simp only [salchowref25_Legal.l0, e]
      exact ev_neg (by omega) (ev_end rfl)
    · intro j hj ih
      refine ev_round ?_
      simp only [salchowref25_Legal.l0]
      refine ev_pos (by omega) (ev_pos (by omega) (ev_call (refcost_ev _) ?_))
      rw [up1 j s.length hj (by omega), drop_of s j hj]
      have go : bad (ofRef (rd_T58 s j)) = false → checkL (ofRef (rd_T58 s j) :: (s.map ofRef).drop (j + 1)) = checkL ((s.map ofRef).drop (j + 1)) := fun e => by unfold checkL; rw [List.any_cons, e, Bool.false_or]
      have st : bad (ofRef (rd_T58 s j)) = true → checkL (ofRef (rd_T58 s j) :: (s.map ofRef).drop (j + 1)) = 1 := fun e => by unfold checkL; rw [List.any_cons, e, Bool.true_or, if_pos rfl]
      have e0 : (ofRef (rd_T58 s j)).f0 = (rd_T58 s j).f0 := rfl
      have e1 : (ofRef (rd_T58 s j)).f1 = (rd_T58 s j).f1 := rfl
      by_cases c : costI (rd_T58 s j).f0 < 0
      · exact ev_pos c (ev_end (st (by unfold bad; simp [e0, c])).symm)
      refine ev_neg c ?_
      by_cases h1 : (rd_T58 s j).f0 = 1
      · refine ev_pos h1 ?_
        by_cases f : full (rd_T58 s j).f1 = true
        · exact ev_pos f (ev_end (st (by unfold bad; simp [e0, e1, h1, f])).symm)
        · refine ev_neg f ?_
          rw [go (by unfold bad; simp [e0, e1, h1, f]; decide)]; exact ih
      refine ev_neg h1 ?_
      by_cases h5 : (rd_T58 s j).f0 = 5
      · refine ev_pos h5 ?_
        by_cases f : full (rd_T58 s j).f1 = true
        · exact ev_pos f (ev_end (st (by unfold bad; simp [e0, e1, h5, f])).symm)
        · refine ev_neg f ?_
          rw [go (by unfold bad; simp [e0, e1, h5, f]; decide)]; exact ih
      refine ev_neg h5 ?_
      rw [go (by unfold bad; simp [e0, e1, h1, h5]; omega)]; exact ih
  exact key
end Go.Proofs.Ytjmbkbnbepmhjaa.Pure
end
section
namespace Go.Proofs.Ytjmbkbnbepmhjaa.Pure
open Go.RowKit Go.Proofs.Ytjmbkbnbepmhjaa.P Go.Proofs.Ytjmbkbnbepmhjaa.E Go.Proofs.YtjmbkbnbepmhjaaW.PrintWords Go.Proofs.YtjmbkbnbepmhjaaW.PrintLast
set_option linter.unusedVariables false
theorem turn_is (x y : S50) : salchowref25_Turn.f x.f0 x.f1 x.f2 x.f3 x.f4 y.f0 y.f1 y.f2 y.f3 y.f4 = some (opOf x y) := by
  unfold salchowref25_Turn.f opOf
  split
  · rfl
  · split <;> rfl
theorem refwalk_ev (a : List S50) (s : List S58) (ha : a.length ≤ 30) (hs : s.length ≤ 60) (hb : (s.map ofRef).any bad = false) :
    ∃ r, Ev (fun k => salchowref25_apply.f k a s) r ∧ (fitR (s.map ofRef) a = 0 → r = (appR (s.map ofRef) a, (invR (s.map ofRef) a).map toRef, true)) ∧ (fitR (s.map ofRef) a ≠ 0 → fitR (s.map ofRef) a = 7 ∧ r.2.2 = false) := by
  unfold salchowref25_apply.f
  have key : ∀ (i : Nat) (x : List S50) (y : List S58), i ≤ a.length → x.length ≤ 0 → y.length ≤ 0 → ∃ r, Ev (fun k => salchowref25_apply.l0 k a s x y (i : Int) ((0 : Nat) : Int)) r ∧ (fitR ((s.map ofRef).drop 0) (a.drop i) = 0 → r = (x ++ appR ((s.map ofRef).drop 0) (a.drop i), y ++ (invR ((s.map ofRef).drop 0) (a.drop i)).map toRef, true)) ∧ (fitR ((s.map ofRef).drop 0) (a.drop i) ≠ 0 → fitR ((s.map ofRef).drop 0) (a.drop i) = 7 ∧ r.2.2 = false) := by
    refine down (P := fun j => ∀ (i : Nat) (x : List S50) (y : List S58), i ≤ a.length → x.length ≤ j → y.length ≤ j → ∃ r, Ev (fun k => salchowref25_apply.l0 k a s x y (i : Int) (j : Int)) r ∧ (fitR ((s.map ofRef).drop j) (a.drop i) = 0 → r = (x ++ appR ((s.map ofRef).drop j) (a.drop i), y ++ (invR ((s.map ofRef).drop j) (a.drop i)).map toRef, true)) ∧ (fitR ((s.map ofRef).drop j) (a.drop i) ≠ 0 → fitR ((s.map ofRef).drop j) (a.drop i) = 7 ∧ r.2.2 = false)) s.length ?_ ?_ 0 (by omega)
    · intro i x y hi hx hy
      have e : (s.map ofRef).drop s.length = [] := List.drop_of_length_le (by simp)
      simp only [e]
      refine ⟨(x, y, ((i : Int) == (a.length : Int))), ev_round ?_, ?_⟩
      · simp only [salchowref25_apply.l0]
        exact ev_neg (by omega) (ev_end rfl)
      · by_cases c : i = a.length
        · subst c
          simp [fitR, appR, invR]
        · rw [drop50 a i (by omega)]
          refine ⟨fun h => absurd h (by simp [fitR]), fun _ => ⟨by simp [fitR], ?_⟩⟩
          show ((i : Int) == (a.length : Int)) = false
          rw [beq_eq_false_iff_ne]; omega
    · intro j hj ih i x y hi hx hy
      have hop := bad_op (any_drop hb j (by simpa using hj))
      rw [rd_of s j hj] at hop
      have e0 : (ofRef (rd_T58 s j)).f0 = (rd_T58 s j).f0 := rfl
      rw [drop_of s j hj]
      have uj := up1 j s.length hj (by omega)
      by_cases h4 : (rd_T58 s j).f0 = 4
      · obtain ⟨r, hr, h1, h2⟩ := ih i (x ++ [(rd_T58 s j).f1]) (y ++ [⟨5, zit⟩]) hi (by simp; omega) (by simp; omega)
        rw [fitR_ins _ _ (e0.trans h4), appR_ins _ _ (e0.trans h4), invR_ins _ _ (e0.trans h4)]
        refine ⟨r, ev_round ?_, fun h => ?_, h2⟩
        · simp only [salchowref25_apply.l0]
          refine ev_pos (by omega) (ev_pos (by omega) (ev_pos h4 (ev_const rfl (ev_pos (by simp; omega) (ev_const rfl (ev_pos (by simp; omega) ?_))))))
          rw [uj]; exact hr
        · rw [h1 h, List.append_assoc, List.append_assoc]; rfl
      have h4' : (ofRef (rd_T58 s j)).f0 ≠ 4 := h4
      by_cases c : i = a.length
      · have ed : a.drop i = [] := List.drop_of_length_le (by omega)
        rw [ed, fitR_end _ h4']
        refine ⟨([], [], false), ev_round ?_, fun h => absurd h (by omega), fun _ => ⟨rfl, rfl⟩⟩
        simp only [salchowref25_apply.l0]
        exact ev_pos (by omega) (ev_pos (by omega) (ev_neg h4 (ev_pos (by omega) (ev_end rfl))))
      have hi' : i < a.length := by omega
      have u := up1 i a.length hi' (by omega)
      rw [drop50 a i hi']
      have w1 : 0 ≤ (i : Int) := by omega
      have w2 : (i : Int) < (a.length : Int) := by omega
      have w3 : ¬ ((i : Int) = (a.length : Int)) := by omega
      have w4 : (j : Int) < (s.length : Int) := by omega
      have w5 : 0 ≤ (j : Int) := by omega
      by_cases h1 : (rd_T58 s j).f0 = 1
      · obtain ⟨r, hr, k1, k2⟩ := ih (i + 1) (x ++ [rd_T50 a i]) (y ++ [⟨1, zit⟩]) (by omega) (by simp; omega) (by simp; omega)
        rw [fitR_one _ _ _ h4' (by rw [e0, h1]; decide), appR_keep _ _ _ (e0.trans h1), invR_keep _ _ _ (e0.trans h1)]
        refine ⟨r, ev_round ?_, fun h => ?_, k2⟩
        · simp only [salchowref25_apply.l0]
          refine ev_pos w4 (ev_pos w5 (ev_neg h4 (ev_neg w3 (ev_pos w1 (ev_pos w2 (ev_pos h1 (ev_const rfl (ev_pos (by simp; omega) (ev_const rfl (ev_pos (by simp; omega) ?_))))))))))
          rw [u, uj]; exact hr
        · rw [k1 h, List.append_assoc, List.append_assoc]; rfl
      by_cases h5 : (rd_T58 s j).f0 = 5
      · obtain ⟨r, hr, k1, k2⟩ := ih (i + 1) x (y ++ [⟨4, rd_T50 a i⟩]) (by omega) (by omega) (by simp; omega)
        rw [fitR_one _ _ _ h4' (by rw [e0, h5]; decide), appR_del _ _ _ (by rw [e0, h5]; decide), invR_del _ _ _ (e0.trans h5)]
        refine ⟨r, ev_round ?_, fun h => ?_, k2⟩
        · simp only [salchowref25_apply.l0]
          refine ev_pos w4 (ev_pos w5 (ev_neg h4 (ev_neg w3 (ev_pos w1 (ev_pos w2 (ev_neg h1 (ev_pos h5 (ev_const rfl (ev_pos (by simp; omega) ?_)))))))))
          rw [u, uj]; exact hr
        · rw [k1 h, List.append_assoc]; rfl
      have h23 : (ofRef (rd_T58 s j)).f0 = 2 ∨ (ofRef (rd_T58 s j)).f0 = 3 := by
        rcases hop with e | e | e | e | e
        · exact absurd e h1
        · exact .inl e
        · exact .inr e
        · exact absurd e h4
        · exact absurd e h5
      rw [fitR_two _ _ _ h23, appR_two _ _ _ h23, invR_two _ _ _ ⟨h4, h1, h5⟩]
      by_cases ht : opOf (rd_T50 a i) (rd_T58 s j).f1 = (rd_T58 s j).f0
      · obtain ⟨r, hr, k1, k2⟩ := ih (i + 1) (x ++ [(rd_T58 s j).f1]) (y ++ [⟨(rd_T58 s j).f0, rd_T50 a i⟩]) (by omega) (by simp; omega) (by simp; omega)
        have ht' : opOf (rd_T50 a i) (ofRef (rd_T58 s j)).f1 = (ofRef (rd_T58 s j)).f0 := ht
        rw [if_pos ht']
        refine ⟨r, ev_round ?_, fun h => ?_, k2⟩
        · simp only [salchowref25_apply.l0]
          refine ev_pos w4 (ev_pos w5 (ev_neg h4 (ev_neg w3 (ev_pos w1 (ev_pos w2 (ev_neg h1 (ev_neg h5 (ev_const (turn_is _ _) (ev_pos ht (ev_const rfl (ev_pos (by simp; omega) (ev_const rfl (ev_pos (by simp; omega) ?_)))))))))))))
          rw [u, uj]; exact hr
        · rw [k1 h, List.append_assoc, List.append_assoc]; rfl
      · have ht' : ¬ opOf (rd_T50 a i) (ofRef (rd_T58 s j)).f1 = (ofRef (rd_T58 s j)).f0 := ht
        rw [if_neg ht']
        refine ⟨([], [], false), ev_round ?_, fun h => absurd h (by omega), fun _ => ⟨rfl, rfl⟩⟩
        simp only [salchowref25_apply.l0]
        exact ev_pos w4 (ev_pos w5 (ev_neg h4 (ev_neg w3 (ev_pos w1 (ev_pos w2 (ev_neg h1 (ev_neg h5 (ev_const (turn_is _ _) (ev_neg ht (ev_end rfl))))))))))
  obtain ⟨r, hr, h1, h2⟩ := key 0 [] [] (by omega) (by simp) (by simp)
  exact ⟨r, hr, h1, h2⟩
theorem refapply_ev (a : List S50) (s : List S58) : Ev (fun k => salchowref25_Apply.f k a s) (applyV a (s.map ofRef)) := by
  unfold salchowref25_Apply.f applyV fitsV
  by_cases h : (a.length : Int) > 30
  · rw [if_pos h, if_neg (by omega)]; exact ev_pos h (ev_end rfl)
  rw [if_neg h]
  refine ev_neg h (ev_call (legal_ev s) ?_)
  by_cases h1 : checkV (s.map ofRef) = 0
  · refine ev_pos h1 ?_
    rw [if_pos h1]
    obtain ⟨hs, hb⟩ := checkV_zero h1
    obtain ⟨r, hr, k1, k2⟩ := refwalk_ev a s (by omega) (by simpa using hs) hb
    refine ev_call hr ?_
    by_cases hf : fitR (s.map ofRef) a = 0
    · rw [if_pos hf, k1 hf]
      refine ev_pos rfl (ev_ite (fun c => by rw [if_pos c]; exact ev_end rfl) (fun c => by rw [if_neg c]; exact ev_end rfl))
    · obtain ⟨e7, ef⟩ := k2 hf
      rw [if_neg hf, e7]
      exact ev_neg (by rw [ef]; decide) (ev_end rfl)
  · rw [if_neg h1, if_neg h1]; exact ev_neg h1 (ev_end rfl)
theorem refinvert_ev (a : List S50) (s : List S58) : Ev (fun k => salchowref25_Invert.f k a s) ((invertV a (s.map ofRef)).1.map toRef, (invertV a (s.map ofRef)).2) := by
  unfold salchowref25_Invert.f invertV fitsV
  by_cases h : (a.length : Int) > 30
  · rw [if_pos h, if_neg (by omega)]; exact ev_pos h (ev_end rfl)
  rw [if_neg h]
  refine ev_neg h (ev_call (legal_ev s) ?_)
  by_cases h1 : checkV (s.map ofRef) = 0
  · refine ev_pos h1 ?_
    rw [if_pos h1]
    obtain ⟨hs, hb⟩ := checkV_zero h1
    obtain ⟨r, hr, k1, k2⟩ := refwalk_ev a s (by omega) (by simpa using hs) hb
    refine ev_call hr ?_
    by_cases hf : fitR (s.map ofRef) a = 0
    · rw [if_pos hf, k1 hf]
      exact ev_pos rfl (ev_end rfl)
    · obtain ⟨e7, ef⟩ := k2 hf
      rw [if_neg hf, e7]
      exact ev_neg (by rw [ef]; decide) (ev_end rfl)
  · rw [if_neg h1, if_neg h1]; exact ev_neg h1 (ev_end rfl)
end Go.Proofs.Ytjmbkbnbepmhjaa.Pure
end
