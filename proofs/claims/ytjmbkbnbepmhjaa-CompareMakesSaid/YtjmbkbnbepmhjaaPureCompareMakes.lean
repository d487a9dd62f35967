/- The script from a to b makes b of a, and its cost is the distance. -/
import Derived.Test.YtjmbkbnbepmhjaaSe
import Derived.Test.YtjmbkbnbepmhjaaPx31
import Derived.Test.YtjmbkbnbepmhjaaK
namespace Go.Proofs.Ytjmbkbnbepmhjaa.Pure
open Go.RowKit Go.Proofs.Ytjmbkbnbepmhjaa.P Go.Proofs.Ytjmbkbnbepmhjaa.E Go.Proofs.YtjmbkbnbepmhjaaW.PrintWords Go.Proofs.YtjmbkbnbepmhjaaW.PrintLast
set_option linter.unusedVariables false

theorem CompareMakes (l0 : List S50) (hl0 : ok22 l0) (l1 : List S50) (hl1 : ok22 l1) : ∃ k, salchowlaw25_CompareMakes.f k l0 l1 = some true := by
  refine Ev.rounds (g := fun k => salchowlaw25_CompareMakes.f k l0 l1) ?_
  simp only [salchowlaw25_CompareMakes.f]
  have stop : Ev (fun k => salchowlaw25_CompareMakes.j0 k l0 l1 true) true := by
    refine ev_round ?_
    simp only [salchowlaw25_CompareMakes.j0]
    exact ev_pos (by simp) (ev_call awake_ev (ev_end rfl))
  obtain ⟨r, hr, hs⟩ := small_ev l0 l1 []
  refine ev_call hr (ev_ite (fun h => ?_) (fun h => stop))
  refine ev_ite (fun _ => stop) (fun a1 => ?_)
  by_cases a2 : (l1.length : Int) > 30
  · rw [decide_eq_true a2]; exact stop
  rw [decide_eq_false a2]
  have b0 : l0.length ≤ 30 := by omega
  have b1 : l1.length ≤ 30 := by omega
  refine ev_round ?_
  simp only [salchowlaw25_CompareMakes.j0]
  obtain ⟨hf, ⟨c, hc, hcb⟩, ht, hb, hl⟩ := scr_all l0 l1
  have eS : scriptV l0 l1 = (scrR l0 l1, 0) := if_pos ⟨b0, b1⟩
  have hck : checkV (scrR l0 l1) = 0 := by
    unfold checkV checkL
    rw [if_neg (by omega), hb]; rfl
  have hfit : fitsV l0 (scrR l0 l1) = 0 := by
    unfold fitsV
    rw [if_neg (by omega), if_pos hck]; exact hf
  have hcl : c.length = l1.length := hcb.1
  have eA : applyV l0 (scrR l0 l1) = (c, 0) := by
    unfold applyV
    rw [if_pos hfit, hc, if_neg (by omega)]
  have eT : totalV (scrR l0 l1) = (D l0 l1, 0) := by
    unfold totalV
    rw [if_pos hck, ht]
  have hsame : Ev (fun k => salchowref25_Same.f k c l1) true := by
    have h := same_ev c l1 (by omega)
    rwa [decide_eq_true hcb] at h
  refine ev_neg (by simp) (ev_call (script_ev _ _) ?_)
  rw [eS]
  refine ev_call (apply_ev _ _) ?_
  rw [eA]
  refine ev_call (total_ev _) ?_
  rw [eT]
  refine ev_const (dist_is _ _ b0 b1) (ev_call awake_ev (ev_pos rfl (ev_pos rfl (ev_pos rfl (ev_pos rfl (ev_pos rfl (ev_call hsame (ev_pos rfl (ev_end ?_)))))))))
  simp
end Go.Proofs.Ytjmbkbnbepmhjaa.Pure
