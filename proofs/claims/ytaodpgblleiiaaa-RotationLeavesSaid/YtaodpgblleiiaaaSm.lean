/- The plain side of the reference's Small. -/
import Derived.Test.YtaodpgblleiiaaaPm
import Derived.Test.YtaodpgblleiiaaaPx8
namespace Go.Proofs.Ytaodpgblleiiaaa.E
open Go.RowKit Go.Proofs.YtaodpgblleiiaaaW.PrintWords Go.Proofs.YtaodpgblleiiaaaW.PrintLast Go.Proofs.Ytaodpgblleiiaaa.P
set_option linter.unusedVariables false

def Small (s : List (List Int)) : Prop := s.length ≤ 14 ∧ ∀ row ∈ s, row.length ≤ 14
instance (s : List (List Int)) : Decidable (Small s) := by unfold Small; infer_instance
theorem small_l (s : List (List Int)) (hs : s.length ≤ 14) : ∀ j, j ≤ s.length → (∀ row ∈ s.take j, row.length ≤ 14) → Ev (fun k => salchowref36_Small.l0 k s (j : Int)) (decide (Small s)) := by
  refine down s.length ?_ ?_
  · intro h
    rw [List.take_length] at h
    refine ev_round ?_
    simp only [salchowref36_Small.l0]
    exact ev_neg (by omega) (ev_end (decide_eq_true (show Small s from ⟨hs, h⟩)).symm)
  · intro j hj ih h
    refine ev_round ?_
    simp only [salchowref36_Small.l0]
    rw [wid (by omega) (by omega)]
    have hm := rdL_mem s j hj
    refine ev_pos (by omega) (ev_pos (by omega) (ev_ite (fun h1 => ev_end ?_) (fun h1 => ih ?_)))
    · symm; rw [decide_eq_false_iff_not]
      intro hh; have := hh.2 _ hm; omega
    · intro row hr
      rw [List.take_succ_eq_append_getElem hj, List.mem_append, List.mem_singleton] at hr
      rcases hr with hr | hr
      · exact h row hr
      · rw [hr, ← rdL_nat s j hj]; omega
theorem small_ev (s : List (List Int)) : Ev (fun k => salchowref36_Small.f k s) (decide (Small s)) := by
  simp only [salchowref36_Small.f]
  refine ev_ite (fun h => ev_end ?_) (fun h => small_l s (by omega) 0 (by omega) (fun row hr => by simp at hr))
  symm; rw [decide_eq_false_iff_not]
  intro hh; have := hh.1; omega

end Go.Proofs.Ytaodpgblleiiaaa.E
