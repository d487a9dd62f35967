/- Total, Missing and Cost answer as specified. -/
import Derived.Test.YtjmbkbnbepmhjaaRf
import Derived.Test.YtjmbkbnbepmhjaaPx36
import Derived.Test.YtjmbkbnbepmhjaaK
namespace Go.Proofs.Ytjmbkbnbepmhjaa.Pure
open Go.RowKit Go.Proofs.Ytjmbkbnbepmhjaa.P Go.Proofs.Ytjmbkbnbepmhjaa.E Go.Proofs.YtjmbkbnbepmhjaaW.PrintWords Go.Proofs.YtjmbkbnbepmhjaaW.PrintLast
set_option linter.unusedVariables false

theorem misR_len : ∀ (s : List S63) (i : Int), (misR s i).length ≤ s.length
  | [], _ => by simp [misR]
  | x :: s, i => by
    rw [misR, List.length_append]
    have := misR_len s (if x.f0 = 4 then i else i + 1)
    simp only [List.length_cons]
    split <;> simp <;> omega
theorem CompareTotals (l0 : List S58) (hl0 : ok31 l0) (a1 : Int) (w1 : (Lit.int .i64 a1).wf = true) : ∃ k, salchowlaw25_CompareTotals.f k l0 a1 = some true := by
  refine Ev.rounds (g := fun k => salchowlaw25_CompareTotals.f k l0 a1) ?_
  simp only [salchowlaw25_CompareTotals.f]
  obtain ⟨r, hr, hs⟩ := small_ev [] [] l0
  refine ev_call hr (ev_ite (fun h => ?_) (fun h => ev_call awake_ev (ev_end rfl)))
  have hl := (hs h).2.2
  have h1 := ours_ev l0 (by omega)
  refine ev_call h1 (ev_call (total_ev _) (ev_call (reftotal_ev l0) (ev_call h1 (ev_call (miss_ev _) (ev_call (refmiss_ev l0) (ev_call awake_ev (ev_pos rfl (ev_pos rfl (ev_pos rfl (ev_pos rfl ?_))))))))))
  refine ev_call (sameInts_ev _ ?_) (ev_pos rfl (ev_call (cost_ev a1) (ev_call (refcost_ev a1) (ev_end (by simp)))))
  unfold missV
  split
  · have := misR_len (l0.map ofRef) 0; rw [List.length_map] at this; show (misR _ 0).length ≤ 1000; omega
  · simp
end Go.Proofs.Ytjmbkbnbepmhjaa.Pure
