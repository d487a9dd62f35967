/- Scripts and lines: fitting, making, inverting; the program's side. -/
import Derived.Test.YtjmbkbnbepmhjaaLp
namespace Go.Proofs.Ytjmbkbnbepmhjaa.Pure
open Go.RowKit Go.Proofs.Ytjmbkbnbepmhjaa.P Go.Proofs.Ytjmbkbnbepmhjaa.E Go.Proofs.YtjmbkbnbepmhjaaW.PrintWords Go.Proofs.YtjmbkbnbepmhjaaW.PrintLast
set_option linter.unusedVariables false

def zit : S50 := ⟨⟨#[]⟩, 0, false, false, false⟩
/-- 0 where the script fits the line, 7 elsewhere. -/
def fitR : List S63 → List S50 → Int
  | [], [] => 0
  | [], _ :: _ => 7
  | s :: ss, a => if s.f0 = 4 then fitR ss a else match a with
    | [] => 7
    | x :: a' => if s.f0 = 2 ∨ s.f0 = 3 then (if opOf x s.f1 = s.f0 then fitR ss a' else 7) else fitR ss a'
/-- The line that a script makes. -/
def appR : List S63 → List S50 → List S50
  | [], _ => []
  | s :: ss, a => if s.f0 = 4 then s.f1 :: appR ss a else match a with
    | [] => []
    | x :: a' => if s.f0 = 1 then x :: appR ss a' else if s.f0 = 2 ∨ s.f0 = 3 then s.f1 :: appR ss a' else appR ss a'
/-- The inverse of a script. -/
def invR : List S63 → List S50 → List S63
  | [], _ => []
  | s :: ss, a => if s.f0 = 4 then ⟨5, zit⟩ :: invR ss a else match a with
    | [] => []
    | x :: a' => if s.f0 = 1 then ⟨1, zit⟩ :: invR ss a' else if s.f0 = 5 then ⟨4, x⟩ :: invR ss a' else ⟨s.f0, x⟩ :: invR ss a'
def totR : List S63 → Int
  | [] => 0
  | s :: ss => costI s.f0 + totR ss
def misR : List S63 → Int → List Int
  | [], _ => []
  | s :: ss, i => (if s.f0 = 3 ∨ s.f0 = 5 then [i] else []) ++ misR ss (if s.f0 = 4 then i else i + 1)
theorem fitR_ins {s : S63} (ss : List S63) (a : List S50) (h : s.f0 = 4) : fitR (s :: ss) a = fitR ss a := by rw [fitR.eq_def]; simp only; rw [if_pos h]
theorem fitR_end {s : S63} (ss : List S63) (h : s.f0 ≠ 4) : fitR (s :: ss) [] = 7 := by rw [fitR.eq_def]; simp only; rw [if_neg h]
theorem fitR_two {s : S63} (ss : List S63) (x : S50) (a : List S50) (h : s.f0 = 2 ∨ s.f0 = 3) : fitR (s :: ss) (x :: a) = if opOf x s.f1 = s.f0 then fitR ss a else 7 := by
  rw [fitR.eq_def]; simp only; rw [if_neg (by omega), if_pos h]
theorem fitR_one {s : S63} (ss : List S63) (x : S50) (a : List S50) (h4 : s.f0 ≠ 4) (h : ¬ (s.f0 = 2 ∨ s.f0 = 3)) : fitR (s :: ss) (x :: a) = fitR ss a := by
  rw [fitR.eq_def]; simp only; rw [if_neg h4, if_neg h]
theorem appR_ins {s : S63} (ss : List S63) (a : List S50) (h : s.f0 = 4) : appR (s :: ss) a = s.f1 :: appR ss a := by rw [appR.eq_def]; simp only; rw [if_pos h]
theorem appR_keep {s : S63} (ss : List S63) (x : S50) (a : List S50) (h : s.f0 = 1) : appR (s :: ss) (x :: a) = x :: appR ss a := by
  rw [appR.eq_def]; simp only; rw [if_neg (by omega), if_pos h]
theorem appR_two {s : S63} (ss : List S63) (x : S50) (a : List S50) (h : s.f0 = 2 ∨ s.f0 = 3) : appR (s :: ss) (x :: a) = s.f1 :: appR ss a := by
  rw [appR.eq_def]; simp only; rw [if_neg (by omega), if_neg (by omega), if_pos h]
theorem appR_del {s : S63} (ss : List S63) (x : S50) (a : List S50) (h : s.f0 ≠ 4 ∧ s.f0 ≠ 1 ∧ s.f0 ≠ 2 ∧ s.f0 ≠ 3) : appR (s :: ss) (x :: a) = appR ss a := by
  rw [appR.eq_def]; simp only; rw [if_neg (by omega), if_neg (by omega), if_neg (by omega)]
theorem invR_ins {s : S63} (ss : List S63) (a : List S50) (h : s.f0 = 4) : invR (s :: ss) a = ⟨5, zit⟩ :: invR ss a := by rw [invR.eq_def]; simp only; rw [if_pos h]
theorem invR_keep {s : S63} (ss : List S63) (x : S50) (a : List S50) (h : s.f0 = 1) : invR (s :: ss) (x :: a) = ⟨1, zit⟩ :: invR ss a := by
  rw [invR.eq_def]; simp only; rw [if_neg (by omega), if_pos h]
theorem invR_del {s : S63} (ss : List S63) (x : S50) (a : List S50) (h : s.f0 = 5) : invR (s :: ss) (x :: a) = ⟨4, x⟩ :: invR ss a := by
  rw [invR.eq_def]; simp only; rw [if_neg (by omega), if_neg (by omega), if_pos h]
theorem invR_two {s : S63} (ss : List S63) (x : S50) (a : List S50) (h : s.f0 ≠ 4 ∧ s.f0 ≠ 1 ∧ s.f0 ≠ 5) : invR (s :: ss) (x :: a) = ⟨s.f0, x⟩ :: invR ss a := by
  rw [invR.eq_def]; simp only; rw [if_neg (by omega), if_neg (by omega), if_neg (by omega)]
def fitsV (a : List S50) (s : List S63) : Int := if (a.length : Int) > 30 then 6 else if checkV s = 0 then fitR s a else checkV s
theorem checkV_zero {s : List S63} (h : checkV s = 0) : s.length ≤ 60 ∧ s.any bad = false := by
  unfold checkV checkL at h
  split at h
  · omega
  · split at h
    · omega
    · rename_i h1 h2; exact ⟨by omega, by simpa using h2⟩
theorem fits_ev (a : List S50) (s : List S63) : Ev (fun k => compare_fits.f k a s) (fitsV a s) := by
  unfold compare_fits.f fitsV
  refine ev_ite (fun h => by rw [if_pos h]; exact ev_end rfl) (fun h => ?_)
  rw [if_neg h]
  refine ev_call (check_ev s) ?_
  refine ev_ite (fun h1 => ?_) (fun h1 => by rw [if_neg h1]; exact ev_end rfl)
  rw [if_pos h1]
  have hs := (checkV_zero h1).1
  have key : ∀ i : Nat, i ≤ a.length → Ev (fun k => compare_fits.l0 k a (i : Int) s (s.length : Int) ((0 : Nat) : Int)) (fitR (s.drop 0) (a.drop i)) := by
    refine down (P := fun j => ∀ i : Nat, i ≤ a.length → Ev (fun k => compare_fits.l0 k a (i : Int) s (s.length : Int) (j : Int)) (fitR (s.drop j) (a.drop i))) s.length ?_ ?_ 0 (by omega)
    · intro i hi
      refine ev_round ?_
      simp only [compare_fits.l0, List.drop_length]
      refine ev_neg (by omega) ?_
      by_cases c : i < a.length
      · rw [drop50 a i c]; exact ev_pos (by omega) (ev_end rfl)
      · rw [List.drop_of_length_le (by omega)]; exact ev_neg (by omega) (ev_end rfl)
    · intro j hj ih i hi
      refine ev_round ?_
      simp only [compare_fits.l0]
      refine ev_pos (by omega) (ev_pos (by omega) (ev_pos (by omega) ?_))
      rw [up1 j s.length hj (by omega), drop63 s j hj]
      by_cases h4 : (rd_T63 s j).f0 = 4
      · rw [fitR_ins _ _ h4]; exact ev_pos h4 (ih i hi)
      refine ev_neg h4 ?_
      by_cases c : i = a.length
      · refine ev_pos (by omega) ?_
        have e0 : a.drop i = [] := List.drop_of_length_le (by omega)
        rw [e0, fitR_end _ h4]; exact ev_end rfl
      refine ev_neg (by omega) ?_
      have hi' : i < a.length := by omega
      rw [drop50 a i hi']
      have ih1 := ih (i + 1) (by omega)
      rw [up1 i a.length hi' (by omega)]
      by_cases h2 : (rd_T63 s j).f0 = 2
      · rw [fitR_two _ _ _ (.inl h2)]
        refine ev_pos h2 (ev_pos (by omega) (ev_pos (by omega) (ev_const (taking_is _ _) ?_)))
        refine ev_ite (fun h => by rw [if_pos h]; exact ih1) (fun h => by rw [if_neg h]; exact ev_end rfl)
      refine ev_neg h2 ?_
      by_cases h3 : (rd_T63 s j).f0 = 3
      · rw [fitR_two _ _ _ (.inr h3)]
        refine ev_pos h3 (ev_pos (by omega) (ev_pos (by omega) (ev_const (taking_is _ _) ?_)))
        refine ev_ite (fun h => by rw [if_pos h]; exact ih1) (fun h => by rw [if_neg h]; exact ev_end rfl)
      refine ev_neg h3 ?_
      rw [fitR_one _ _ _ h4 (by omega)]
      exact ih1
  exact key 0 (by omega)
theorem fitR_cases {s : S63} {ss : List S63} {a : List S50} (h : fitR (s :: ss) a = 0) (h4 : s.f0 ≠ 4) : ∃ x a', a = x :: a' ∧ fitR ss a' = 0 ∧ (s.f0 = 2 ∨ s.f0 = 3 → opOf x s.f1 = s.f0) := by
  cases a with
  | nil => rw [fitR_end _ h4] at h; omega
  | cons x a =>
    refine ⟨x, a, rfl, ?_⟩
    by_cases h2 : s.f0 = 2 ∨ s.f0 = 3
    · rw [fitR_two _ _ _ h2] at h
      by_cases c : opOf x s.f1 = s.f0
      · rw [if_pos c] at h; exact ⟨h, fun _ => c⟩
      · rw [if_neg c] at h; omega
    · rw [fitR_one _ _ _ h4 h2] at h; exact ⟨h, fun e => absurd e h2⟩
theorem drop_lt {α : Type} {l : List α} {i : Nat} {x : α} {r : List α} (h : l.drop i = x :: r) : i < l.length := by
  have := congrArg List.length h
  simp at this; omega
def applyV (a : List S50) (s : List S63) : List S50 × Int := if fitsV a s = 0 then (if ((appR s a).length : Int) > 30 then ([], 6) else (appR s a, 0)) else ([], fitsV a s)
theorem fitsV_zero {a : List S50} {s : List S63} (h : fitsV a s = 0) : a.length ≤ 30 ∧ s.length ≤ 60 ∧ s.any bad = false ∧ fitR s a = 0 := by
  unfold fitsV at h
  split at h
  · omega
  · split at h
    · rename_i h1 h2; exact ⟨by omega, (checkV_zero h2).1, (checkV_zero h2).2, h⟩
    · omega
theorem apply_ev (a : List S50) (s : List S63) : Ev (fun k => compare_Apply.f k a s) (applyV a s) := by
  unfold compare_Apply.f applyV
  refine ev_call (fits_ev a s) ?_
  refine ev_ite (fun h => ?_) (fun h => by rw [if_neg h]; exact ev_end rfl)
  rw [if_pos h]
  obtain ⟨ha, hs, _, hf⟩ := fitsV_zero h
  have key : ∀ (i : Nat) (acc : List S50), acc.length ≤ 0 → i ≤ a.length → fitR (s.drop 0) (a.drop i) = 0 → Ev (fun k => compare_Apply.l0 k a acc (i : Int) s (s.length : Int) ((0 : Nat) : Int)) (if ((acc ++ appR (s.drop 0) (a.drop i)).length : Int) > 30 then ([], 6) else (acc ++ appR (s.drop 0) (a.drop i), 0)) := by
    refine down (P := fun j => ∀ (i : Nat) (acc : List S50), acc.length ≤ j → i ≤ a.length → fitR (s.drop j) (a.drop i) = 0 → Ev (fun k => compare_Apply.l0 k a acc (i : Int) s (s.length : Int) (j : Int)) (if ((acc ++ appR (s.drop j) (a.drop i)).length : Int) > 30 then ([], 6) else (acc ++ appR (s.drop j) (a.drop i), 0))) s.length ?_ ?_ 0 (by omega)
    · intro i acc hc hi hf
      refine ev_round ?_
      simp only [compare_Apply.l0, List.drop_length]
      refine ev_neg (by omega) ?_
      simp only [appR, List.append_nil]
      exact ev_ite (fun c => by rw [if_pos c]; exact ev_end rfl) (fun c => by rw [if_neg c]; exact ev_end rfl)
    · intro j hj ih i acc hc hi hf
      rw [drop63 s j hj] at hf ⊢
      refine ev_round ?_
      simp only [compare_Apply.l0]
      refine ev_pos (by omega) (ev_pos (by omega) (ev_pos (by omega) ?_))
      rw [up1 j s.length hj (by omega)]
      by_cases h4 : (rd_T63 s j).f0 = 4
      · refine ev_neg (by omega) (ev_neg (by omega) (ev_neg (by omega) (ev_round ?_)))
        simp only [compare_Apply.j1]
        refine ev_pos (by simp [h4]) (ev_pos (by omega) (ev_const rfl (ev_pos h4 ?_)))
        rw [fitR_ins _ _ h4] at hf
        rw [appR_ins _ _ h4]
        rw [up1 j s.length hj (by omega)]
        have := ih i (acc ++ [(rd_T63 s j).f1]) (by simp; omega) hi hf
        rw [List.append_assoc] at this
        exact this
      obtain ⟨x, a', e, hf', h23⟩ := fitR_cases hf h4
      have hi' := drop_lt e
      rw [drop50 a i hi'] at e
      obtain ⟨rfl, rfl⟩ := List.cons.inj e
      rw [drop50 a i hi']
      have u := up1 i a.length hi' (by omega)
      by_cases h1 : (rd_T63 s j).f0 = 1
      · refine ev_pos h1 (ev_pos (by omega) (ev_pos (by omega) (ev_pos (by omega) (ev_const rfl (ev_neg h4 ?_)))))
        rw [appR_keep _ _ _ h1, u]
        have := ih (i + 1) (acc ++ [rd_T50 a i]) (by simp; omega) (by omega) hf'
        rw [List.append_assoc] at this
        exact this
      refine ev_neg h1 ?_
      by_cases h2 : (rd_T63 s j).f0 = 2
      · refine ev_pos h2 (ev_round ?_)
        simp only [compare_Apply.j1]
        refine ev_pos (by simp [h2]) (ev_pos (by omega) (ev_const rfl (ev_neg h4 ?_)))
        rw [appR_two _ _ _ (.inl h2), u, up1 j s.length hj (by omega)]
        have := ih (i + 1) (acc ++ [(rd_T63 s j).f1]) (by simp; omega) (by omega) hf'
        rw [List.append_assoc] at this
        exact this
      refine ev_neg h2 ?_
      by_cases h3 : (rd_T63 s j).f0 = 3
      · refine ev_pos h3 (ev_round ?_)
        simp only [compare_Apply.j1]
        refine ev_pos (by simp [h3]) (ev_pos (by omega) (ev_const rfl (ev_neg h4 ?_)))
        rw [appR_two _ _ _ (.inr h3), u, up1 j s.length hj (by omega)]
        have := ih (i + 1) (acc ++ [(rd_T63 s j).f1]) (by simp; omega) (by omega) hf'
        rw [List.append_assoc] at this
        exact this
      refine ev_neg h3 (ev_round ?_)
      simp only [compare_Apply.j1]
      refine ev_neg (by simp [h4]) (ev_neg h4 ?_)
      rw [appR_del _ _ _ ⟨h4, h1, h2, h3⟩, u, up1 j s.length hj (by omega)]
      exact ih (i + 1) acc (by omega) (by omega) hf'
  exact key 0 [] (by simp) (by omega) hf
end Go.Proofs.Ytjmbkbnbepmhjaa.Pure
