/- For all numbers the cyclic and the balanced square of package rotation are those of the reference, or the errors are the specified ones. No condition. -/
import Derived.Test.YtaodpgblleiiaaaSq
namespace Go.Proofs.Ytaodpgblleiiaaa.Pure
open Go.RowKit Go.Proofs.Ytaodpgblleiiaaa.P Go.Proofs.Ytaodpgblleiiaaa.E Go.Proofs.YtaodpgblleiiaaaW.PrintWords Go.Proofs.YtaodpgblleiiaaaW.PrintLast

theorem rows_small (F : Nat → List Int) (n : Nat) (hF : ∀ t, (F t).length = n) (hn : n ≤ 64) : ∀ x ∈ upto F n, x.length < 4611686018427387904 := by
  intro x hx
  unfold upto at hx
  obtain ⟨t, _, rfl⟩ := List.mem_map.mp hx
  rw [hF]; omega

theorem RotationSquares : salchowlaw36_RotationSquares.Pure := by
  intro a0 _
  refine Ev.rounds (g := fun k => salchowlaw36_RotationSquares.f k a0) ?_
  simp only [salchowlaw36_RotationSquares.f]
  refine ev_call awake_ev (ev_pos (by simp) ?_)
  by_cases h : 1 ≤ a0 ∧ a0 ≤ 64
  · obtain ⟨n, rfl⟩ : ∃ n : Nat, a0 = n := ⟨a0.toNat, by omega⟩
    have hn : 1 ≤ n ∧ n ≤ 64 := by omega
    have hc : Ev (fun k => salchowref36_SameRows.f k (cyc n) (cyc n)) true := sameRows_ev _ (by unfold cyc; rw [upto_len]; omega) (rows_small _ n (fun t => upto_len _ _) hn.2)
    have hb : Ev (fun k => salchowref36_SameRows.f k (bal n) (bal n)) true := sameRows_ev _ (by unfold bal; rw [upto_len]; omega) (rows_small _ n (fun t => upto_len _ _) hn.2)
    refine ev_call (cyclic_ev n hn) ?_
    have e2 : Int.tmod (n : Int) 2 = ((n % 2 : Nat) : Int) := tmod_nat n 2
    by_cases h2 : n % 2 = 0
    · refine ev_call (bal_ev n hn h2) (ev_neg (by omega) (ev_round ?_))
      simp only [salchowlaw36_RotationSquares.j0]
      refine ev_neg (by simp; omega) (ev_pos (by simp) (ev_call (refcyc_ev n hn) (ev_call hc (ev_round ?_))))
      simp only [salchowlaw36_RotationSquares.j1]
      refine ev_neg (by simp) (ev_neg (by omega) (ev_pos (by simp) (ev_call (refbal_ev n hn) (ev_call hb (ev_end rfl)))))
    · refine ev_call (bal_odd n hn (by omega)) (ev_neg (by omega) (ev_round ?_))
      simp only [salchowlaw36_RotationSquares.j0]
      refine ev_neg (by simp; omega) (ev_pos (by simp) (ev_call (refcyc_ev n hn) (ev_call hc (ev_round ?_))))
      simp only [salchowlaw36_RotationSquares.j1]
      exact ev_neg (by simp) (ev_pos (by omega) (ev_end rfl))
  · refine ev_call (cyclic_no a0 h) (ev_call (bal_no a0 h) (ev_ite (fun h1 => ev_round ?_) (fun h1 => ev_round ?_)))
    · simp only [salchowlaw36_RotationSquares.j0]
      exact ev_pos (by simp) (ev_pos (by simp) (ev_end rfl))
    · simp only [salchowlaw36_RotationSquares.j0]
      exact ev_pos (by simp; omega) (ev_pos (by simp) (ev_end rfl))
end Go.Proofs.Ytaodpgblleiiaaa.Pure
