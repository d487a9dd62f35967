/- The specification's side: what its functions compute. -/
import Derived.Test.YtjmbkbnbepmhjaaIv
import Derived.Test.YtjmbkbnbepmhjaaPx22
import Derived.Test.YtjmbkbnbepmhjaaPx34
import Derived.Test.YtjmbkbnbepmhjaaPx35
namespace Go.Proofs.Ytjmbkbnbepmhjaa.Pure
open Go.RowKit Go.Proofs.Ytjmbkbnbepmhjaa.P Go.Proofs.Ytjmbkbnbepmhjaa.E Go.Proofs.YtjmbkbnbepmhjaaW.PrintWords Go.Proofs.YtjmbkbnbepmhjaaW.PrintLast
set_option linter.unusedVariables false

theorem rd_of (s : List S58) (j : Nat) (hj : j < s.length) : rd_T63 (s.map ofRef) j = ofRef (rd_T58 s j) := by
  unfold rd_T63 rd_T58; simp [List.getD_eq_getElem?_getD, hj]
theorem drop_of (s : List S58) (j : Nat) (hj : j < s.length) : (s.map ofRef).drop j = ofRef (rd_T58 s j) :: (s.map ofRef).drop (j + 1) := by
  rw [drop63 _ j (by simpa using hj), rd_of s j hj]
theorem legal_ev (s : List S58) : Ev (fun k => salchowref25_Legal.f k s) (checkV (s.map ofRef)) := by
  unfold salchowref25_Legal.f checkV
  rw [List.length_map]
  refine ev_ite (fun h => by rw [if_pos h]; exact ev_end rfl) (fun h => ?_)
  rw [if_neg h]
  have key : Ev (fun k => salchowref25_Legal.l0 k s ((0 : Nat) : Int)) (checkL ((s.map ofRef).drop 0)) := by
    refine down (P := fun j => Ev (fun k => salchowref25_Legal.l0 k s (j : Int)) (checkL ((s.map ofRef).drop j))) s.length ?_ ?_ 0 (by omega)
    · refine ev_round ?_
      have e : (s.map ofRef).drop s.length = [] := List.drop_of_length_le (by simp)
      simp only [salchowref25_Legal.l0, e]
      exact ev_neg (by omega) (ev_end rfl)
    · intro j hj ih
      refine ev_round ?_
      simp only [salchowref25_Legal.l0]
      refine ev_pos (by omega) (ev_pos (by omega) (ev_call (refcost_ev _) ?_))
      rw [up1 j s.length hj (by omega), drop_of s j hj]
      have go : bad (ofRef (rd_T58 s j)) = false → checkL (ofRef (rd_T58 s j) :: (s.map ofRef).drop (j + 1)) = checkL ((s.map ofRef).drop (j + 1)) := fun e => by unfold checkL; rw [List.any_cons, e, Bool.false_or]
      have st : bad (ofRef (rd_T58 s j)) = true → checkL (ofRef (rd_T58 s j) :: (s.map ofRef).drop (j + 1)) = 1 := fun e => by unfold checkL; rw [List.any_cons, e, Bool.true_or, if_pos rfl]
      have e0 : (ofRef (rd_T58 s j)).f0 = (rd_T58 s j).f0 := rfl
      have e1 : (ofRef (rd_T58 s j)).f1 = (rd_T58 s j).f1 := rfl
      by_cases c : costI (rd_T58 s j).f0 < 0
      · exact ev_pos c (ev_end (st (by unfold bad; simp [e0, c])).symm)
      refine ev_neg c ?_
      by_cases h1 : (rd_T58 s j).f0 = 1
      · refine ev_pos h1 ?_
        by_cases f : full (rd_T58 s j).f1 = true
        · exact ev_pos f (ev_end (st (by unfold bad; simp [e0, e1, h1, f])).symm)
        · refine ev_neg f ?_
          rw [go (by unfold bad; simp [e0, e1, h1, f]; decide)]; exact ih
      refine ev_neg h1 ?_
      by_cases h5 : (rd_T58 s j).f0 = 5
      · refine ev_pos h5 ?_
        by_cases f : full (rd_T58 s j).f1 = true
        · exact ev_pos f (ev_end (st (by unfold bad; simp [e0, e1, h5, f])).symm)
        · refine ev_neg f ?_
          rw [go (by unfold bad; simp [e0, e1, h5, f]; decide)]; exact ih
      refine ev_neg h5 ?_
      rw [go (by unfold bad; simp [e0, e1, h1, h5]; omega)]; exact ih
  exact key
theorem reftotal_ev (s : List S58) : Ev (fun k => salchowref25_Total.f k s) (totalV (s.map ofRef)) := by
  unfold salchowref25_Total.f totalV
  refine ev_call (legal_ev s) ?_
  refine ev_ite (fun h => ?_) (fun h => by rw [if_neg h]; exact ev_end rfl)
  rw [if_pos h]
  have hs : s.length ≤ 60 := by have := (checkV_zero h).1; simpa using this
  have key : ∀ n : Int, -1 * (0 : Nat) ≤ n ∧ n ≤ 3 * ((0 : Nat) : Int) → Ev (fun k => salchowref25_Total.l0 k s n ((0 : Nat) : Int)) (n + totR ((s.map ofRef).drop 0), 0) := by
    refine down (P := fun j => ∀ n : Int, -1 * (j : Int) ≤ n ∧ n ≤ 3 * (j : Int) → Ev (fun k => salchowref25_Total.l0 k s n (j : Int)) (n + totR ((s.map ofRef).drop j), 0)) s.length ?_ ?_ 0 (by omega)
    · intro n hn
      refine ev_round ?_
      have e : (s.map ofRef).drop s.length = [] := List.drop_of_length_le (by simp)
      simp only [salchowref25_Total.l0, e]
      refine ev_neg (by omega) ?_
      exact ev_end (by simp [totR])
    · intro j hj ih n hn
      refine ev_round ?_
      simp only [salchowref25_Total.l0]
      refine ev_pos (by omega) (ev_pos (by omega) (ev_call (refcost_ev _) ?_))
      have hc := costI_bd (rd_T58 s j).f0
      rw [up1 j s.length hj (by omega), drop_of s j hj, wid (by omega) (by omega)]
      have := ih (n + costI (rd_T58 s j).f0) (by omega)
      rw [Int.add_assoc] at this
      exact this
  have := key 0 (by omega)
  rw [Int.zero_add] at this
  exact this
theorem refmiss_ev (s : List S58) : Ev (fun k => salchowref25_Missing.f k s) (missV (s.map ofRef)) := by
  unfold salchowref25_Missing.f missV
  refine ev_call (legal_ev s) ?_
  refine ev_ite (fun h => ?_) (fun h => by rw [if_neg h]; exact ev_end rfl)
  rw [if_pos h]
  have hs : s.length ≤ 60 := by have := (checkV_zero h).1; simpa using this
  have key : ∀ (i : Nat) (acc : List Int), i ≤ 0 → acc.length ≤ 0 → Ev (fun k => salchowref25_Missing.l0 k s acc (i : Int) ((0 : Nat) : Int)) (acc ++ misR ((s.map ofRef).drop 0) (i : Int), 0) := by
    refine down (P := fun j => ∀ (i : Nat) (acc : List Int), i ≤ j → acc.length ≤ j → Ev (fun k => salchowref25_Missing.l0 k s acc (i : Int) (j : Int)) (acc ++ misR ((s.map ofRef).drop j) (i : Int), 0)) s.length ?_ ?_ 0 (by omega)
    · intro i acc hi hc
      refine ev_round ?_
      have e : (s.map ofRef).drop s.length = [] := List.drop_of_length_le (by simp)
      simp only [salchowref25_Missing.l0, e]
      refine ev_neg (by omega) ?_
      exact ev_end (by simp [misR])
    · intro j hj ih i acc hi hc
      refine ev_round ?_
      simp only [salchowref25_Missing.l0]
      refine ev_pos (by omega) (ev_pos (by omega) ?_)
      rw [drop_of s j hj]
      have uj := up1 j s.length hj (by omega)
      have u : wrap64 ((i : Int) + 1) = ((i + 1 : Nat) : Int) := up1 i (i + 1) (by omega) (by omega)
      have e0 : (ofRef (rd_T58 s j)).f0 = (rd_T58 s j).f0 := rfl
      have put : (rd_T58 s j).f0 = 3 ∨ (rd_T58 s j).f0 = 5 → Ev (fun k => salchowref25_Missing.j1 k s acc (i : Int) (j : Int) true) (acc ++ misR (ofRef (rd_T58 s j) :: (s.map ofRef).drop (j + 1)) (i : Int), 0) := by
        intro h35
        refine ev_round ?_
        simp only [salchowref25_Missing.j1]
        refine ev_pos (by simp) (ev_pos (by omega) (ev_const rfl (ev_pos (by omega) (ev_pos (by omega) (ev_neg (by omega) ?_)))))
        rw [u, uj, misR, e0, if_pos h35, if_neg (by omega)]
        have := ih (i + 1) (acc ++ [(i : Int)]) (by omega) (by simp; omega)
        rw [List.append_assoc] at this
        exact this
      by_cases h5 : (rd_T58 s j).f0 = 5
      · exact ev_pos h5 (put (.inr h5))
      refine ev_neg h5 ?_
      by_cases h3 : (rd_T58 s j).f0 = 3
      · have e : ((rd_T58 s j).f0 == 3) = true := by simp [h3]
        rw [e]; exact put (.inl h3)
      have e : ((rd_T58 s j).f0 == 3) = false := by simp [h3]
      rw [e]
      refine ev_round ?_
      simp only [salchowref25_Missing.j1]
      refine ev_neg (by simp) (ev_pos (by omega) (ev_pos (by omega) ?_))
      rw [u, uj, misR, e0, if_neg (by omega), List.nil_append]
      by_cases h4 : (rd_T58 s j).f0 = 4
      · rw [if_pos h4]; exact ev_pos h4 (ih i acc (by omega) (by omega))
      · rw [if_neg h4]; exact ev_neg h4 (ih (i + 1) acc (by omega) (by omega))
  have := key 0 [] (by omega) (by simp)
  exact this
end Go.Proofs.Ytjmbkbnbepmhjaa.Pure
