/- For all squares, sizes, seconds and pauses Timetable returns the specified times or the error; examined are at most 14 rows, 20 sizes and 20 seconds. -/
import Derived.Test.YtaodpgblleiiaaaTm
import Derived.Test.YtaodpgblleiiaaaPx11
import Derived.Test.YtaodpgblleiiaaaK
namespace Go.Proofs.Ytaodpgblleiiaaa.Pure
open Go.RowKit Go.Proofs.Ytaodpgblleiiaaa.P Go.Proofs.Ytaodpgblleiiaaa.E Go.Proofs.YtaodpgblleiiaaaW.PrintWords Go.Proofs.YtaodpgblleiiaaaW.PrintLast
set_option linter.unusedVariables false

theorem RotationTimes (l0 : List (List Int)) (hl0 : ok23 l0) (l1 : List Int) (hl1 : ok31 l1) (l2 : List Int) (hl2 : ok31 l2) (a3 : Int) (w3 : (Lit.int .i64 a3).wf = true) : ∃ k, salchowlaw36_RotationTimes.f k l0 l1 l2 a3 = some true := by
  refine Ev.rounds (g := fun k => salchowlaw36_RotationTimes.f k l0 l1 l2 a3) ?_
  have stop : Ev (fun k => salchowlaw36_RotationTimes.j0 k l0 l1 l2 a3 true) true := by
    refine ev_round ?_
    simp only [salchowlaw36_RotationTimes.j0]
    exact ev_pos (by simp) (ev_end rfl)
  simp only [salchowlaw36_RotationTimes.f]
  refine ev_call awake_ev (ev_pos rfl (ev_call (small_ev l0) ?_))
  by_cases hs : Small l0
  · refine ev_pos (by simpa using hs) (ev_ite (fun _ => stop) (fun h1 => ?_))
    by_cases h2 : (l2.length : Int) > 20
    · rw [decide_eq_true h2]; exact stop
    · rw [decide_eq_false h2]
      have hw : ∀ row ∈ l0, row.length ≤ 1000 := fun row hr => by have := hs.2 row hr; omega
      have hl := hs.1
      have ht := timetable_ev l0 l1 l2 a3 (by omega) hw
      have no : ¬ Fits l0 l1 l2 → Ev (fun k => salchowlaw36_RotationTimes.j1 k l0 l1 l2 a3 [] 1 true) true := fun h => by
        refine ev_round ?_
        simp only [salchowlaw36_RotationTimes.j1]
        exact ev_pos (by simp) (ev_end rfl)
      refine ev_round ?_
      simp only [salchowlaw36_RotationTimes.j0]
      refine ev_neg (by simp) ?_
      by_cases hf : Fits l0 l1 l2
      · rw [if_pos hf] at ht
        refine ev_call ht (ev_call (reflat_ev l0 (by omega)) (ev_pos (decide_eq_true hf.1) (ev_pos (by have := hf.2.1; omega) ?_)))
        have e : ((l2.length : Int) != (l0.length : Int)) = false := by rw [bne_eq_false_iff_eq]; have := hf.2.2; omega
        rw [e]
        refine ev_round ?_
        simp only [salchowlaw36_RotationTimes.j1]
        refine ev_neg (by simp) (ev_call (refrange_ev l1 l2 a3 (by omega) (by omega)) ?_)
        by_cases hr : Rng l1 l2 a3
        · rw [if_pos hr, decide_eq_true hr]
          refine ev_pos rfl (ev_pos rfl (ev_call (reftime_ev l0 l1 l2 a3 (by omega) hf.2.1 hf.2.2 hf.1.1) (ev_call (same_ev _ (by unfold table_; rw [upto_len]; omega)) (ev_end rfl))))
        · rw [if_neg hr, decide_eq_false hr]
          exact ev_neg (by simp) (ev_end rfl)
      · rw [if_neg hf] at ht
        refine ev_call ht (ev_call (reflat_ev l0 (by omega)) (ev_ite (fun h3 => ev_ite (fun h4 => ?_) (fun _ => no hf)) (fun _ => no hf)))
        have h3 := of_decide_eq_true h3
        have e : ((l2.length : Int) != (l0.length : Int)) = true := by
          rw [bne_iff_ne]; exact fun h5 => hf ⟨h3, by omega, by omega⟩
        rw [e]; exact no hf
  · exact ev_neg (by simpa using hs) stop
end Go.Proofs.Ytaodpgblleiiaaa.Pure
