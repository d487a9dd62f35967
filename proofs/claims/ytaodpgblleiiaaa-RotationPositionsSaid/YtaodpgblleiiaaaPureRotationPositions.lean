/- For all lists of orders Positions returns the specified sums or the error; examined are at most 14 orders of at most 14 members. -/
import Derived.Test.YtaodpgblleiiaaaRf
import Derived.Test.YtaodpgblleiiaaaK
namespace Go.Proofs.Ytaodpgblleiiaaa.Pure
open Go.RowKit Go.Proofs.Ytaodpgblleiiaaa.P Go.Proofs.Ytaodpgblleiiaaa.E Go.Proofs.YtaodpgblleiiaaaW.PrintWords Go.Proofs.YtaodpgblleiiaaaW.PrintLast
set_option linter.unusedVariables false

theorem RotationPositions (l0 : List (List Int)) (hl0 : ok23 l0) : ∃ k, salchowlaw36_RotationPositions.f k l0 = some true := by
  refine Ev.rounds (g := fun k => salchowlaw36_RotationPositions.f k l0) ?_
  simp only [salchowlaw36_RotationPositions.f]
  refine ev_call awake_ev (ev_pos rfl (ev_call (small_ev l0) ?_))
  by_cases hs : Small l0
  · have hw : ∀ row ∈ l0, row.length ≤ 1000 := fun row hr => by have := hs.2 row hr; omega
    have hl := hs.1
    have hp := positions_ev l0 (by omega) hw
    have ho := ordered_ev l0 (by omega) hw
    by_cases h : E.Ord l0
    · rw [if_pos h] at hp
      rw [decide_eq_true h] at ho
      have h0 := h.1
      have hlen : (rd_L1 l0 0).length ≤ 1000 := hw _ (rdL_mem l0 0 h0)
      exact ev_pos (by simpa using hs) (ev_call hp (ev_call ho (ev_pos rfl (ev_pos rfl (ev_call (refpos_ev l0 (by omega) hw h0) (ev_call (same_ev _ (by unfold sums; rw [upto_len]; omega)) (ev_end rfl)))))))
    · rw [if_neg h] at hp
      rw [decide_eq_false h] at ho
      exact ev_pos (by simpa using hs) (ev_call hp (ev_call ho (ev_neg (by simp) (ev_end rfl))))
  · exact ev_neg (by simpa using hs) (ev_end rfl)
end Go.Proofs.Ytaodpgblleiiaaa.Pure
