/- The inverse of a script. -/
import Derived.Test.YtjmbkbnbepmhjaaDs
import Derived.Test.YtjmbkbnbepmhjaaPx33
import Derived.ChangeKeysEq
import Derived.Test.YtjmbkbnbepmhjaaK
namespace Go.Proofs.Ytjmbkbnbepmhjaa.Pure
open Go.RowKit Go.Proofs.Ytjmbkbnbepmhjaa.P Go.Proofs.Ytjmbkbnbepmhjaa.E Go.Proofs.YtjmbkbnbepmhjaaW.PrintWords Go.Proofs.YtjmbkbnbepmhjaaW.PrintLast
set_option linter.unusedVariables false

theorem blank {x : S50} (h : full x = false) : x = zit := by
  unfold full at h
  simp only [Bool.or_eq_false_iff, Bool.not_eq_false', beq_iff_eq] at h
  obtain ⟨h0, h1, h2, h3, h4⟩ := h
  have e : x.f0 = ⟨#[]⟩ := by
    rw [ByteArray.toList_eq] at h0
    apply ByteArray.ext
    apply Array.ext'
    exact h0
  cases x; simp only at h1 h2 h3 h4 e
  subst h1; subst h2; subst h3; subst h4; subst e; rfl
theorem bad_blank {s : S63} (h : bad s = false) (h1 : s.f0 = 1 ∨ s.f0 = 5) : s.f1 = zit := by
  unfold bad at h
  simp only [Bool.or_eq_false_iff, Bool.and_eq_false_iff] at h
  rcases h.2 with e | e
  · rcases h1 with h1 | h1 <;> simp [h1] at e
  · exact blank e
theorem full_zit : full zit = false := by decide +kernel
theorem inv_all : ∀ (s : List S63) (a : List S50), fitR s a = 0 → s.any bad = false →
    fitR (invR s a) (appR s a) = 0 ∧ appR (invR s a) (appR s a) = a ∧ invR (invR s a) (appR s a) = s ∧ totR (invR s a) = totR s ∧ (invR s a).any bad = false ∧ (invR s a).length = s.length
  | [], [], _, _ => ⟨rfl, rfl, rfl, rfl, rfl, rfl⟩
  | [], x :: a, h, _ => by simp [fitR] at h
  | s :: ss, a, h, hb => by
    rw [List.any_cons, Bool.or_eq_false_iff] at hb
    have hop := bad_op hb.1
    by_cases h4 : s.f0 = 4
    · rw [fitR_ins _ _ h4] at h
      obtain ⟨k1, k2, k3, k4, k5, k6⟩ := inv_all ss a h hb.2
      rw [appR_ins _ _ h4, invR_ins _ _ h4]
      have e5 : (⟨5, zit⟩ : S63).f0 = 5 := rfl
      refine ⟨?_, ?_, ?_, ?_, ?_, ?_⟩
      · rw [fitR_one _ _ _ (by rw [e5]; decide) (by rw [e5]; decide)]; exact k1
      · rw [appR_del _ _ _ (by rw [e5]; decide)]; exact k2
      · rw [invR_del _ _ _ e5, k3]
        congr 1
        cases s; simp only at h4; subst h4; rfl
      · rw [totR, totR, k4, e5, h4]; rfl
      · rw [List.any_cons, k5, Bool.or_false]; decide +kernel
      · simp [k6]
    obtain ⟨x, a', rfl, hf, h23⟩ := fitR_cases h h4
    obtain ⟨k1, k2, k3, k4, k5, k6⟩ := inv_all ss a' hf hb.2
    by_cases h1 : s.f0 = 1
    · rw [appR_keep _ _ _ h1, invR_keep _ _ _ h1]
      have e1 : (⟨1, zit⟩ : S63).f0 = 1 := rfl
      refine ⟨?_, ?_, ?_, ?_, ?_, ?_⟩
      · rw [fitR_one _ _ _ (by rw [e1]; decide) (by rw [e1]; decide)]; exact k1
      · rw [appR_keep _ _ _ e1, k2]
      · rw [invR_keep _ _ _ e1, k3]
        have := bad_blank hb.1 (.inl h1)
        congr 1
        cases s; simp only at h1 this; subst h1; subst this; rfl
      · rw [totR, totR, k4, e1, h1]
      · rw [List.any_cons, k5, Bool.or_false]; decide +kernel
      · simp [k6]
    by_cases h5 : s.f0 = 5
    · rw [appR_del _ _ _ (by rw [h5]; decide), invR_del _ _ _ h5]
      have e4 : (⟨4, x⟩ : S63).f0 = 4 := rfl
      refine ⟨?_, ?_, ?_, ?_, ?_, ?_⟩
      · rw [fitR_ins _ _ e4]; exact k1
      · rw [appR_ins _ _ e4, k2]
      · rw [invR_ins _ _ e4, k3]
        have := bad_blank hb.1 (.inr h5)
        congr 1
        cases s; simp only at h5 this; subst h5; subst this; rfl
      · rw [totR, totR, k4, e4, h5]; rfl
      · rw [List.any_cons, k5, Bool.or_false]; unfold bad; rw [e4]; simp [costI]
      · simp [k6]
    have h2 : s.f0 = 2 ∨ s.f0 = 3 := by
      rcases hop with e | e | e | e | e
      · exact absurd e h1
      · exact .inl e
      · exact .inr e
      · exact absurd e h4
      · exact absurd e h5
    have ho := h23 h2
    rw [appR_two _ _ _ h2, invR_two _ _ _ ⟨h4, h1, h5⟩]
    have e2 : (⟨s.f0, x⟩ : S63).f0 = s.f0 := rfl
    refine ⟨?_, ?_, ?_, ?_, ?_, ?_⟩
    · rw [fitR_two (s := ⟨s.f0, x⟩) _ _ _ h2]
      have e : opOf s.f1 x = s.f0 := by rw [op_symm]; exact ho
      rw [if_pos e]; exact k1
    · rw [appR_two (s := ⟨s.f0, x⟩) _ _ _ h2, k2]
    · rw [invR_two (s := ⟨s.f0, x⟩) _ _ _ ⟨h4, h1, h5⟩, k3]
    · rw [totR, totR, k4]
    · rw [List.any_cons, k5, Bool.or_false]; unfold bad
      rcases h2 with e | e <;> simp [e, costI]
    · simp [k6]
theorem CompareInverts (l0 : List S50) (hl0 : ok22 l0) (l1 : List S58) (hl1 : ok31 l1) : ∃ k, salchowlaw25_CompareInverts.f k l0 l1 = some true := by
  refine Ev.rounds (g := fun k => salchowlaw25_CompareInverts.f k l0 l1) ?_
  simp only [salchowlaw25_CompareInverts.f]
  obtain ⟨r, hr, hs⟩ := small_ev l0 [] l1
  refine ev_call hr (ev_ite (fun h => ?_) (fun h => ev_call awake_ev (ev_end rfl)))
  have hl := (hs h).2.2
  have h1 := ours_ev l1 (by omega)
  refine ev_call h1 (ev_call (apply_ev _ _) (ev_ite (fun h0 => ?_) (fun h0 => ev_call awake_ev (ev_end rfl))))
  have key : fitsV l0 (l1.map ofRef) = 0 ∧ (appR (l1.map ofRef) l0).length ≤ 30 ∧ applyV l0 (l1.map ofRef) = (appR (l1.map ofRef) l0, 0) := by
    unfold applyV at h0 ⊢
    split at h0
    · rename_i hf
      split at h0
      · simp at h0
      · rename_i hn; rw [if_pos hf, if_neg hn]; exact ⟨hf, by omega, rfl⟩
    · rename_i hf; exact absurd h0 hf
  obtain ⟨hf, hn, e⟩ := key
  obtain ⟨ha, hsl, hb, hfit⟩ := fitsV_zero hf
  obtain ⟨k1, k2, k3, k4, k5, k6⟩ := inv_all _ _ hfit hb
  have hc : checkV (l1.map ofRef) = 0 := by
    unfold checkV checkL; rw [if_neg (by omega), if_neg (by rw [hb]; decide)]
  have hc2 : checkV (invR (l1.map ofRef) l0) = 0 := by
    unfold checkV checkL; rw [if_neg (by omega), if_neg (by rw [k5]; decide)]
  have hf2 : fitsV (appR (l1.map ofRef) l0) (invR (l1.map ofRef) l0) = 0 := by
    unfold fitsV; rw [if_neg (by omega), if_pos hc2]; exact k1
  have et : totalV (l1.map ofRef) = (totR (l1.map ofRef), 0) := by unfold totalV; rw [if_pos hc]
  have et2 : totalV (invR (l1.map ofRef) l0) = (totR (l1.map ofRef), 0) := by unfold totalV; rw [if_pos hc2, k4]
  have ei : invertV l0 (l1.map ofRef) = (invR (l1.map ofRef) l0, 0) := by unfold invertV; rw [if_pos hf]
  have ei2 : invertV (appR (l1.map ofRef) l0) (invR (l1.map ofRef) l0) = (l1.map ofRef, 0) := by unfold invertV; rw [if_pos hf2, k3]
  have ea2 : applyV (appR (l1.map ofRef) l0) (invR (l1.map ofRef) l0) = (l0, 0) := by unfold applyV; rw [if_pos hf2, k2, if_neg (by omega)]
  have i1 := invert_ev l0 (l1.map ofRef)
  rw [ei] at i1
  have i2 := invert_ev (appR (l1.map ofRef) l0) (invR (l1.map ofRef) l0)
  rw [ei2] at i2
  have a2 := apply_ev (appR (l1.map ofRef) l0) (invR (l1.map ofRef) l0)
  rw [ea2] at a2
  have t1 := total_ev (l1.map ofRef)
  rw [et] at t1
  have t2 := total_ev (invR (l1.map ofRef) l0)
  rw [et2] at t2
  rw [e]
  have th := theirs_ev (l1.map ofRef) (by simp; omega)
  rw [to_of] at th
  refine ev_call h1 (ev_call i1 (ev_call a2 (ev_call i2 (ev_call h1 (ev_call t1 (ev_call t2 (ev_call awake_ev (ev_pos rfl (ev_pos rfl (ev_pos rfl (ev_pos rfl (ev_pos rfl (ev_pos rfl (ev_call (sameSelf_ev l0 (by omega)) (ev_pos rfl (ev_pos rfl (ev_call th (ev_call (sameSteps_ev l1 (by omega)) (ev_end rfl)))))))))))))))))))
end Go.Proofs.Ytjmbkbnbepmhjaa.Pure
