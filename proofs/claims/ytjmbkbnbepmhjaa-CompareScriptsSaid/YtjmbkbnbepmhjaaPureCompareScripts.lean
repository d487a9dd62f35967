/- Distance returns the least cost, and Script the first script with this cost. -/
import Derived.Test.YtjmbkbnbepmhjaaYt
import Derived.Test.YtjmbkbnbepmhjaaPx25
import Derived.Test.YtjmbkbnbepmhjaaK
namespace Go.Proofs.Ytjmbkbnbepmhjaa.Pure
open Go.RowKit Go.Proofs.Ytjmbkbnbepmhjaa.P Go.Proofs.Ytjmbkbnbepmhjaa.E Go.Proofs.YtjmbkbnbepmhjaaW.PrintWords Go.Proofs.YtjmbkbnbepmhjaaW.PrintLast
set_option linter.unusedVariables false

theorem scr_len : ∀ a b : List S50, (scrR a b).length ≤ a.length + b.length
  | [], [] => by rw [scrR]; exact Nat.le_refl _
  | [], y :: b => by
    rw [scrR]
    have := scr_len [] b
    simp at this ⊢; omega
  | x :: a, [] => by
    rw [scrR]
    have := scr_len a []
    simp at this ⊢; omega
  | x :: a, y :: b => by
    rw [scrR]
    have h1 := scr_len a b
    have h2 := scr_len (x :: a) b
    have h3 := scr_len a (y :: b)
    split
    · simp at h1 ⊢; omega
    · split
      · simp at h2 ⊢; omega
      · simp at h3 ⊢; omega
termination_by a b => a.length + b.length
theorem refdist_ev (a b : List S50) : Ev (fun k => salchowref25_Distance.f k a b) (if a.length ≤ 30 ∧ b.length ≤ 30 then (D a b, 0) else (0, 6)) := by
  unfold salchowref25_Distance.f
  by_cases ha : a.length ≤ 30
  rotate_left
  · rw [if_neg (fun h => ha h.1)]
    exact ev_pos (by omega) (ev_end rfl)
  by_cases hb : b.length ≤ 30
  rotate_left
  · rw [if_neg (fun h => hb h.2)]
    exact ev_neg (by omega) (ev_pos (by omega) (ev_end rfl))
  rw [if_pos ⟨ha, hb⟩]
  have h1 := tbl_len a b
  have h2 := tbl_row_len a b 0 (Nat.zero_le _)
  have h3 := tbl_at a b 0 0 (Nat.zero_le _) (Nat.zero_le _)
  refine ev_neg (by omega) (ev_neg (by omega) (ev_call (reftable_ev a b ha hb) (ev_pos (by omega) (ev_pos ?_ (ev_end ?_)))))
  · rw [show (0 : Int) = ((0 : Nat) : Int) from rfl]; rw [h2]; omega
  · exact congrArg (fun x => (x, (0 : Int))) h3
theorem CompareScripts (l0 : List S50) (hl0 : ok22 l0) (l1 : List S50) (hl1 : ok22 l1) : ∃ k, salchowlaw25_CompareScripts.f k l0 l1 = some true := by
  refine Ev.rounds (g := fun k => salchowlaw25_CompareScripts.f k l0 l1) ?_
  simp only [salchowlaw25_CompareScripts.f]
  obtain ⟨r, hr, hs⟩ := small_ev l0 l1 []
  refine ev_call hr (ev_ite (fun h => ?_) (fun h => ev_call awake_ev (ev_end rfl)))
  have hd : compare_Distance.f l0 l1 = some (if l0.length ≤ 30 ∧ l1.length ≤ 30 then (D l0 l1, 0) else (0, 6)) := by
    by_cases ha : l0.length ≤ 30
    rotate_left
    · rw [if_neg (fun h => ha h.1)]
      unfold compare_Distance.f
      rw [if_pos (by omega)]
    by_cases hb : l1.length ≤ 30
    rotate_left
    · rw [if_neg (fun h => hb h.2)]
      unfold compare_Distance.f
      rw [if_neg (by omega), if_pos (by omega)]
    rw [if_pos ⟨ha, hb⟩]
    exact dist_is l0 l1 ha hb
  have hlen : ((scriptV l0 l1).1).length ≤ 60 := by
    unfold scriptV
    by_cases c : l0.length ≤ 30 ∧ l1.length ≤ 30
    · rw [if_pos c]
      have := scr_len l0 l1
      show (scrR l0 l1).length ≤ 60
      omega
    · rw [if_neg c]; exact Nat.zero_le _
  have ht := theirs_ev (scriptV l0 l1).1 (by omega)
  have hsame := sameSteps_ev ((scriptV l0 l1).1.map toRef) (by rw [List.length_map]; omega)
  refine ev_const hd (ev_call (refdist_ev l0 l1) (ev_call (script_ev l0 l1) (ev_call (refscript_ev l0 l1) (ev_call awake_ev (ev_pos rfl (ev_pos rfl (ev_pos rfl (ev_pos rfl (ev_call ht (ev_call hsame (ev_end rfl)))))))))))
end Go.Proofs.Ytjmbkbnbepmhjaa.Pure
