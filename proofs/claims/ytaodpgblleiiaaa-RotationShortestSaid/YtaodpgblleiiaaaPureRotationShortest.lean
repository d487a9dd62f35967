/- For all sizes, seconds and pauses Shortest returns the specified assignment and end, or the error. -/
import Derived.Test.YtaodpgblleiiaaaYd
import Derived.Test.YtaodpgblleiiaaaPx26
namespace Go.Proofs.Ytaodpgblleiiaaa.Pure
open Go.RowKit Go.Proofs.Ytaodpgblleiiaaa.P Go.Proofs.Ytaodpgblleiiaaa.E Go.Proofs.YtaodpgblleiiaaaW.PrintWords Go.Proofs.YtaodpgblleiiaaaW.PrintLast
set_option linter.unusedVariables false

theorem RotationShortest : salchowlaw36_RotationShortest.Pure := by
  intro l0 l1 a2 _ _ _ _ _ _ _
  refine Ev.rounds (g := fun k => salchowlaw36_RotationShortest.f k l0 l1 a2) ?_
  simp only [salchowlaw36_RotationShortest.f]
  have stop : Ev (fun k => salchowlaw36_RotationShortest.j0 k l0 l1 a2 true) true := by
    refine ev_round ?_
    simp only [salchowlaw36_RotationShortest.j0]
    exact ev_pos (by first | trivial | rfl) (ev_end rfl)
  refine ev_call awake_ev (ev_pos rfl (ev_ite (fun _ => stop) (fun h0 => ev_ite (fun _ => stop) (fun h1 => ?_))))
  by_cases h6 : l0.length = 6
  · have e : ((l0.length : Int) == 6) = true := by rw [beq_iff_eq]; omega
    rw [e]; exact stop
  have e6 : ((l0.length : Int) == 6) = false := by rw [beq_eq_false_iff_ne]; omega
  rw [e6]
  refine ev_round ?_
  simp only [salchowlaw36_RotationShortest.j0]
  refine ev_neg (by decide) (ev_call (shortest_ev l0 l1 a2 (by omega) (by omega)) ?_)
  have one : ∀ x y : List Int × Int × Int, x = ([], 0, 1) → Ev (fun k => salchowlaw36_RotationShortest.j1 k l0 l1 a2 x.1 x.2.1 x.2.2 true) true := by
    rintro x _ rfl
    refine ev_round ?_
    simp only [salchowlaw36_RotationShortest.j1]
    exact ev_pos (by first | trivial | rfl) (ev_end rfl)
  by_cases c1 : l0.length = 0 ∨ l1.length ≠ l0.length
  · rw [if_pos c1]
    by_cases c0 : l0.length = 0
    · exact ev_pos (by omega) (one _ ([], 0, 0) rfl)
    · have e : ((l1.length : Int) != (l0.length : Int)) = true := by rw [bne_iff_ne]; have := c1.resolve_left c0; omega
      rw [e]
      exact ev_neg (by omega) (one _ ([], 0, 0) rfl)
  rw [if_neg c1]
  have n0 : l0.length ≠ 0 := fun e => c1 (.inl e)
  have n1 : l1.length = l0.length := Classical.byContradiction fun e => c1 (.inr e)
  have e1 : ((l1.length : Int) != (l0.length : Int)) = false := by rw [bne_eq_false_iff_eq]; omega
  rw [e1]
  refine ev_neg (by omega) (ev_round ?_)
  simp only [salchowlaw36_RotationShortest.j1]
  refine ev_neg (by decide) ?_
  by_cases c2 : 6 < l0.length
  · rw [if_pos c2]
    exact ev_pos (by omega) (ev_end rfl)
  rw [if_neg c2]
  refine ev_neg (by omega) (ev_call (refrange_ev l0 l1 a2 (by omega) (by omega)) ?_)
  by_cases c3 : Rng l0 l1 a2
  · rw [if_pos c3, decide_eq_true c3]
    have hr := refshort_ev l0 l1 a2 l0.length rfl n1 (by omega) (by omega)
    refine ev_pos rfl (ev_call hr (ev_pos rfl ?_))
    have hg : ((allR l0.length l0.length []).foldl (upd l0 l1 a2) ([], 0)).1.length < 4611686018427387904 := by
      obtain ⟨_, _, h3⟩ := fold_least l0 l1 a2 (allR l0.length l0.length []) ([], 0) (all_ne _ (by omega)) (.inl rfl)
      rcases h3 with h3 | ⟨h3, _⟩
      · rw [h3]; decide
      · have := (all_good l0.length l0.length [] _ ⟨(fun x hx => by cases hx), List.nodup_nil⟩ (by simp) h3).1
        omega
    exact ev_call (same_ev _ hg) (ev_pos rfl (ev_end (by simp)))
  · rw [if_neg c3, decide_eq_false c3]
    exact ev_neg (by decide) (ev_end rfl)
end Go.Proofs.Ytaodpgblleiiaaa.Pure
