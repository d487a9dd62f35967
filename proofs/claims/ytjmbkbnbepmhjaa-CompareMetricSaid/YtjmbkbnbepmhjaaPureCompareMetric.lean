/- The distance is a metric. -/
import Derived.Test.YtjmbkbnbepmhjaaDs
import Derived.Test.YtjmbkbnbepmhjaaPx28
import Derived.Test.YtjmbkbnbepmhjaaK
namespace Go.Proofs.Ytjmbkbnbepmhjaa.Pure
open Go.RowKit Go.Proofs.Ytjmbkbnbepmhjaa.P Go.Proofs.Ytjmbkbnbepmhjaa.E Go.Proofs.YtjmbkbnbepmhjaaW.PrintWords Go.Proofs.YtjmbkbnbepmhjaaW.PrintLast
set_option linter.unusedVariables false

theorem CompareMetric (l0 : List S50) (hl0 : ok22 l0) (l1 : List S50) (hl1 : ok22 l1) (l2 : List S50) (hl2 : ok22 l2) : ∃ k, salchowlaw25_CompareMetric.f k l0 l1 l2 = some true := by
  refine Ev.rounds (g := fun k => salchowlaw25_CompareMetric.f k l0 l1 l2) ?_
  simp only [salchowlaw25_CompareMetric.f]
  have stop : Ev (fun k => salchowlaw25_CompareMetric.j0 k l0 l1 l2 true) true := by
    refine ev_round ?_
    simp only [salchowlaw25_CompareMetric.j0]
    exact ev_pos (by simp) (ev_call awake_ev (ev_end rfl))
  obtain ⟨r, hr, hs⟩ := small_ev l0 l1 []
  refine ev_call hr (ev_ite (fun h => ?_) (fun h => stop))
  obtain ⟨r', hr', hs'⟩ := small_ev l2 [] []
  refine ev_call hr' (ev_ite (fun h' => ?_) (fun h' => stop))
  refine ev_ite (fun _ => stop) (fun a1 => ev_ite (fun _ => stop) (fun a2 => ?_))
  by_cases a3 : (l2.length : Int) > 30
  · rw [decide_eq_true a3]; exact stop
  rw [decide_eq_false a3]
  refine ev_round ?_
  simp only [salchowlaw25_CompareMetric.j0]
  have b0 : l0.length ≤ 30 := by omega
  have b1 : l1.length ≤ 30 := by omega
  have b2 : l2.length ≤ 30 := by omega
  have d0 := D_bd l0 l1
  have d1 := D_bd l1 l2
  have d2 := D_tri l0 l1 l2
  refine ev_neg (by simp) (ev_const (dist_is l0 l1 b0 b1) (ev_const (dist_is l1 l0 b1 b0) (ev_const (dist_is l1 l2 b1 b2) (ev_const (dist_is l0 l2 b0 b2) (ev_call awake_ev (ev_pos rfl (ev_pos rfl (ev_pos rfl (ev_pos rfl (ev_pos rfl (ev_call (same_ev l0 l1 (by omega)) (ev_pos ?_ (ev_pos (D_symm l0 l1) (ev_pos ?_ (ev_end ?_)))))))))))))))
  · rw [beq_iff_eq, bdec (b := (D l0 l1 == 0)) (P := Sames l0 l1) (by rw [beq_iff_eq]; exact D_zero l0 l1)]
  · rw [wid (by omega) (by omega)]; exact d2
  · rw [decide_eq_true_iff]; exact d0.1
end Go.Proofs.Ytjmbkbnbepmhjaa.Pure
