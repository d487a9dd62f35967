/- For all lists of rows Latin and Carry answer as specified; examined are at most 14 rows of 14 numbers. -/
import Derived.Test.YtaodpgblleiiaaaCa
import Derived.Test.YtaodpgblleiiaaaK
namespace Go.Proofs.Ytaodpgblleiiaaa.Pure
open Go.RowKit Go.Proofs.Ytaodpgblleiiaaa.P Go.Proofs.Ytaodpgblleiiaaa.E Go.Proofs.YtaodpgblleiiaaaW.PrintWords Go.Proofs.YtaodpgblleiiaaaW.PrintLast
set_option linter.unusedVariables false

theorem RotationLatin (l0 : List (List Int)) (hl0 : ok23 l0) : ∃ k, salchowlaw36_RotationLatin.f k l0 = some true := by
  refine Ev.rounds (g := fun k => salchowlaw36_RotationLatin.f k l0) ?_
  simp only [salchowlaw36_RotationLatin.f]
  refine ev_call awake_ev (ev_pos rfl (ev_call (small_ev l0) ?_))
  by_cases hs : Small l0
  · have hw : ∀ row ∈ l0, row.length ≤ 1000 := fun row hr => by have := hs.2 row hr; omega
    have hl := hs.1
    have hc := carry_ev l0 (by omega) hw
    have h1 := latin_ev l0 (by omega) hw
    have h2 := reflat_ev l0 (by omega)
    by_cases h : Lat l0
    · rw [if_pos h] at hc
      rw [decide_eq_true h] at h1 h2
      refine ev_pos (by simpa using hs) (ev_call hc (ev_call h1 (ev_call h2 (ev_neg (by simp) (ev_call h2 (ev_pos rfl (ev_pos rfl (ev_call (refcarry_ev l0 (by omega) h.2.2 h.1) (ev_call (sameRows_ev _ ?_ ?_) (ev_end rfl))))))))))
      · unfold carryM; rw [mat_len]; omega
      · intro x hx
        unfold carryM mat upto at hx
        obtain ⟨a, _, rfl⟩ := List.mem_map.mp hx
        simp; omega
    · rw [if_neg h] at hc
      rw [decide_eq_false h] at h1 h2
      exact ev_pos (by simpa using hs) (ev_call hc (ev_call h1 (ev_call h2 (ev_neg (by simp) (ev_call h2 (ev_neg (by simp) (ev_end rfl)))))))
  · exact ev_neg (by simpa using hs) (ev_end rfl)
end Go.Proofs.Ytaodpgblleiiaaa.Pure
