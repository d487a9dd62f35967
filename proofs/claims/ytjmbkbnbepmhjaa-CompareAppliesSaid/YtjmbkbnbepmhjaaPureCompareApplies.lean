/- Apply and Invert answer as specified. -/
import Derived.Test.YtjmbkbnbepmhjaaYa
import Derived.Test.YtjmbkbnbepmhjaaPx27
import Derived.Test.YtjmbkbnbepmhjaaK
namespace Go.Proofs.Ytjmbkbnbepmhjaa.Pure
open Go.RowKit Go.Proofs.Ytjmbkbnbepmhjaa.P Go.Proofs.Ytjmbkbnbepmhjaa.E Go.Proofs.YtjmbkbnbepmhjaaW.PrintWords Go.Proofs.YtjmbkbnbepmhjaaW.PrintLast
set_option linter.unusedVariables false

theorem invR_len : ∀ (s : List S63) (a : List S50), (invR s a).length ≤ s.length
  | [], _ => by simp [invR]
  | x :: s, a => by
    by_cases h4 : x.f0 = 4
    · rw [invR_ins _ _ h4]; have := invR_len s a; simp only [List.length_cons]; omega
    cases a with
    | nil => rw [invR.eq_def]; simp only; rw [if_neg h4]; simp
    | cons y a =>
      have := invR_len s a
      by_cases h1 : x.f0 = 1
      · rw [invR_keep _ _ _ h1]; simp only [List.length_cons]; omega
      by_cases h5 : x.f0 = 5
      · rw [invR_del _ _ _ h5]; simp only [List.length_cons]; omega
      rw [invR_two _ _ _ ⟨h4, h1, h5⟩]; simp only [List.length_cons]; omega
theorem applyV_len (a : List S50) (s : List S63) : (applyV a s).1.length ≤ 30 := by
  unfold applyV
  split
  · split
    · simp
    · show (appR s a).length ≤ 30; omega
  · simp
theorem CompareApplies (l0 : List S50) (hl0 : ok22 l0) (l1 : List S58) (hl1 : ok31 l1) : ∃ k, salchowlaw25_CompareApplies.f k l0 l1 = some true := by
  refine Ev.rounds (g := fun k => salchowlaw25_CompareApplies.f k l0 l1) ?_
  simp only [salchowlaw25_CompareApplies.f]
  obtain ⟨r, hr, hs⟩ := small_ev l0 [] l1
  refine ev_call hr (ev_ite (fun h => ?_) (fun h => ev_call awake_ev (ev_end rfl)))
  have hl := (hs h).2.2
  have h1 := ours_ev l1 (by omega)
  refine ev_call h1 (ev_call (apply_ev _ _) (ev_call (refapply_ev l0 l1) (ev_call h1 (ev_call (invert_ev _ _) (ev_call (refinvert_ev l0 l1) (ev_call awake_ev (ev_pos rfl (ev_pos rfl ?_))))))))
  have hi : (invertV l0 (l1.map ofRef)).1.length ≤ 1000 := by
    unfold invertV
    split
    · have := invR_len (l1.map ofRef) l0; rw [List.length_map] at this; show (invR _ _).length ≤ 1000; omega
    · simp
  refine ev_call (sameSelf_ev _ (by have := applyV_len l0 (l1.map ofRef); omega)) (ev_pos rfl (ev_pos rfl (ev_call (theirs_ev _ hi) (ev_call (sameSteps_ev _ (by simpa using hi)) (ev_end rfl)))))
end Go.Proofs.Ytjmbkbnbepmhjaa.Pure
