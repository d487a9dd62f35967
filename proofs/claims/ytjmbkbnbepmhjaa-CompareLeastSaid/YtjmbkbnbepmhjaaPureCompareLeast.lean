/- No script has a lesser cost than the distance. -/
import Derived.Test.YtjmbkbnbepmhjaaDs
import Derived.Test.YtjmbkbnbepmhjaaPx32
import Derived.Test.YtjmbkbnbepmhjaaK
namespace Go.Proofs.Ytjmbkbnbepmhjaa.Pure
open Go.RowKit Go.Proofs.Ytjmbkbnbepmhjaa.P Go.Proofs.Ytjmbkbnbepmhjaa.E Go.Proofs.YtjmbkbnbepmhjaaW.PrintWords Go.Proofs.YtjmbkbnbepmhjaaW.PrintLast
set_option linter.unusedVariables false

theorem CompareLeast (l0 : List S50) (hl0 : ok22 l0) (l1 : List S58) (hl1 : ok31 l1) : ∃ k, salchowlaw25_CompareLeast.f k l0 l1 = some true := by
  refine Ev.rounds (g := fun k => salchowlaw25_CompareLeast.f k l0 l1) ?_
  simp only [salchowlaw25_CompareLeast.f]
  obtain ⟨r, hr, hs⟩ := small_ev l0 [] l1
  refine ev_call hr (ev_ite (fun h => ?_) (fun h => ev_call awake_ev (ev_end rfl)))
  have hl := (hs h).2.2
  have h1 := ours_ev l1 (by omega)
  refine ev_call h1 (ev_call (apply_ev _ _) (ev_ite (fun h0 => ?_) (fun h0 => ev_call awake_ev (ev_end rfl))))
  have key : fitsV l0 (l1.map ofRef) = 0 ∧ (appR (l1.map ofRef) l0).length ≤ 30 ∧ applyV l0 (l1.map ofRef) = (appR (l1.map ofRef) l0, 0) := by
    unfold applyV at h0 ⊢
    split at h0
    · rename_i hf
      split at h0
      · simp at h0
      · rename_i hn; rw [if_pos hf, if_neg hn]; exact ⟨hf, by omega, rfl⟩
    · rename_i hf; exact absurd h0 hf
  obtain ⟨hf, hn, e⟩ := key
  obtain ⟨ha, hsl, hb, hfit⟩ := fitsV_zero hf
  have hc : checkV (l1.map ofRef) = 0 := by
    unfold fitsV at hf
    rw [if_neg (by omega)] at hf
    by_cases c : checkV (l1.map ofRef) = 0
    · exact c
    · rw [if_neg c] at hf; exact hf
  have et : totalV (l1.map ofRef) = (totR (l1.map ofRef), 0) := by unfold totalV; rw [if_pos hc]
  refine ev_call h1 (ev_call (total_ev _) ?_)
  rw [e, et]
  have hle := scr_le (scr_fit _ _ hfit hb)
  exact ev_const (dist_is _ _ ha hn) (ev_call awake_ev (ev_pos rfl (ev_pos rfl (ev_pos rfl (ev_end (by rw [decide_eq_true_iff]; exact hle))))))
end Go.Proofs.Ytjmbkbnbepmhjaa.Pure
