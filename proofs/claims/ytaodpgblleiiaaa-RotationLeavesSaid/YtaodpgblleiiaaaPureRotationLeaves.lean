/- In every Latin square as many groups go directly from an apparatus to others as there are groups that do not end there, and as many come to it as do not begin there; examined are at most 14 rows. -/
import Derived.Test.YtaodpgblleiiaaaCa
import Derived.Test.YtaodpgblleiiaaaSm
import Derived.Test.YtaodpgblleiiaaaPx15
import Derived.Test.YtaodpgblleiiaaaK
namespace Go.Proofs.Ytaodpgblleiiaaa.Pure
open Go.RowKit Go.Proofs.Ytaodpgblleiiaaa.P Go.Proofs.Ytaodpgblleiiaaa.E Go.Proofs.YtaodpgblleiiaaaW.PrintWords Go.Proofs.YtaodpgblleiiaaaW.PrintLast
set_option linter.unusedVariables false

def sumTo (F : Nat → Nat) : Nat → Nat
  | 0 => 0
  | n + 1 => sumTo F n + F n
theorem sumTo_add (F G : Nat → Nat) : ∀ n, sumTo (fun b => F b + G b) n = sumTo F n + sumTo G n
  | 0 => rfl
  | n + 1 => by
    have := sumTo_add F G n
    unfold sumTo
    rw [this]; omega
theorem sumTo_zero (F : Nat → Nat) (h : ∀ b, F b = 0) : ∀ n, sumTo F n = 0
  | 0 => rfl
  | n + 1 => by
    have := sumTo_zero F h n
    unfold sumTo
    rw [this, h]
theorem sumTo_one (A : Prop) [Decidable A] (x : Int) (h0 : 0 ≤ x) : ∀ n : Nat, sumTo (fun b => if A ∧ x = (b : Int) then 1 else 0) n = if A ∧ x < (n : Int) then 1 else 0
  | 0 => by
    unfold sumTo
    rw [if_neg]
    intro h; omega
  | n + 1 => by
    have ih := sumTo_one A x h0 n
    unfold sumTo
    rw [ih]
    by_cases hA : A
    · by_cases h1 : x < (n : Int)
      · rw [if_pos (show A ∧ x < (n : Int) from ⟨hA, h1⟩), if_neg (show ¬ (A ∧ x = (n : Int)) from fun h => by omega), if_pos (show A ∧ x < ((n + 1 : Nat) : Int) from ⟨hA, by omega⟩)]
      · rw [if_neg (show ¬ (A ∧ x < (n : Int)) from fun h => h1 h.2)]
        by_cases h2 : x = (n : Int)
        · rw [if_pos (show A ∧ x = (n : Int) from ⟨hA, h2⟩), if_pos (show A ∧ x < ((n + 1 : Nat) : Int) from ⟨hA, by omega⟩)]
        · rw [if_neg (show ¬ (A ∧ x = (n : Int)) from fun h => h2 h.2), if_neg (show ¬ (A ∧ x < ((n + 1 : Nat) : Int)) from fun h => by omega)]
    · rw [if_neg (fun h => hA h.1), if_neg (fun h => hA h.1), if_neg (fun h => hA h.1)]
/-- How many of the first j numbers are a. -/
theorem out_row (p c : List Int) (n a : Nat) (hp : p.length = n) (hc : E.Good n c) : ∀ j, j ≤ n → sumTo (fun b => rowN p c a b j) n = (p.take j).count (a : Int)
  | 0, _ => by simp; exact sumTo_zero _ (fun b => rfl) n
  | j + 1, hj => by
    have ih := out_row p c n a hp hc j (by omega)
    have hm := hc.2.1 _ (rd_mem c j (by have := hc.1; omega))
    have e : sumTo (fun b => rowN p c a b (j + 1)) n = sumTo (fun b => rowN p c a b j) n + sumTo (fun b => if rd p (j : Int) = a ∧ rd c (j : Int) = (b : Int) then 1 else 0) n := sumTo_add _ _ n
    rw [e, ih, sumTo_one _ _ hm.1, take_next p j (by omega), List.count_append]
    congr 1
    by_cases h : rd p (j : Int) = (a : Int)
    · rw [if_pos ⟨h, hm.2⟩, h]; simp
    · rw [if_neg (fun hh => h hh.1)]
      symm; rw [List.count_eq_zero, List.mem_singleton]; exact fun e => h e.symm
theorem in_row (p c : List Int) (n b : Nat) (hc : c.length = n) (hp : E.Good n p) : ∀ j, j ≤ n → sumTo (fun a => rowN p c a b j) n = (c.take j).count (b : Int)
  | 0, _ => by simp; exact sumTo_zero _ (fun b => rfl) n
  | j + 1, hj => by
    have ih := in_row p c n b hc hp j (by omega)
    have hm := hp.2.1 _ (rd_mem p j (by have := hp.1; omega))
    have e : sumTo (fun a => rowN p c a b (j + 1)) n = sumTo (fun a => rowN p c a b j) n + sumTo (fun a => if rd c (j : Int) = b ∧ rd p (j : Int) = (a : Int) then 1 else 0) n := by
      have e1 : (fun a => rowN p c a b (j + 1)) = fun a => rowN p c a b j + if rd c (j : Int) = b ∧ rd p (j : Int) = (a : Int) then 1 else 0 := by
        funext a
        show _ + _ = _ + _
        congr 1
        by_cases h : rd p (j : Int) = (a : Int) ∧ rd c (j : Int) = (b : Int)
        · rw [if_pos h, if_pos ⟨h.2, h.1⟩]
        · rw [if_neg h, if_neg (fun hh => h ⟨hh.2, hh.1⟩)]
      rw [e1]; exact sumTo_add _ _ n
    rw [e, ih, sumTo_one _ _ hm.1, take_next c j (by omega), List.count_append]
    congr 1
    by_cases h : rd c (j : Int) = (b : Int)
    · rw [if_pos ⟨h, hm.2⟩, h]; simp
    · rw [if_neg (fun hh => h hh.1)]
      symm; rw [List.count_eq_zero, List.mem_singleton]; exact fun e => h e.symm
theorem out_tot (s : List (List Int)) (h : Lat s) (a : Nat) (ha : a < s.length) : ∀ i, i + 1 ≤ s.length → sumTo (fun b => totN s a b i) s.length = i
  | 0, _ => sumTo_zero _ (fun b => rfl) _
  | i + 1, hi => by
    have ih := out_tot s h a ha i (by omega)
    have g1 := h.1 _ (rdL_mem s i (by omega))
    have g2 := h.1 _ (rdL_mem s (i + 1) (by omega))
    have e : sumTo (fun b => totN s a b (i + 1)) s.length = sumTo (fun b => totN s a b i) s.length + sumTo (fun b => rowN (rd_L1 s (i : Int)) (rd_L1 s ((i + 1 : Nat) : Int)) a b s.length) s.length := sumTo_add _ _ _
    rw [e, ih, out_row _ _ s.length a g1.1 g2 s.length (Nat.le_refl _)]
    have e2 : (rd_L1 s (i : Int)).take s.length = rd_L1 s (i : Int) := by rw [List.take_of_length_le]; rw [g1.1]; exact Nat.le_refl _
    rw [e2, good_count s.length _ g1 a ha]
theorem in_tot (s : List (List Int)) (h : Lat s) (b : Nat) (hb : b < s.length) : ∀ i, i + 1 ≤ s.length → sumTo (fun a => totN s a b i) s.length = i
  | 0, _ => sumTo_zero _ (fun b => rfl) _
  | i + 1, hi => by
    have ih := in_tot s h b hb i (by omega)
    have g1 := h.1 _ (rdL_mem s i (by omega))
    have g2 := h.1 _ (rdL_mem s (i + 1) (by omega))
    have e : sumTo (fun a => totN s a b (i + 1)) s.length = sumTo (fun a => totN s a b i) s.length + sumTo (fun a => rowN (rd_L1 s (i : Int)) (rd_L1 s ((i + 1 : Nat) : Int)) a b s.length) s.length := sumTo_add _ _ _
    rw [e, ih, in_row _ _ s.length b g2.1 g1 s.length (Nat.le_refl _)]
    have e2 : (rd_L1 s ((i + 1 : Nat) : Int)).take s.length = rd_L1 s ((i + 1 : Nat) : Int) := by rw [List.take_of_length_le]; rw [g2.1]; exact Nat.le_refl _
    rw [e2, good_count s.length _ g2 b hb]
theorem col_rd (s : List (List Int)) (g t : Nat) (ht : t < s.length) : rd (col s g) (t : Int) = rd (rd_L1 s (t : Int)) (g : Int) := by
  rw [rd_nat _ t (by rw [col_len]; exact ht)]
  simp [col, rdL_nat s t ht]
theorem same_row (s : List (List Int)) (h : Lat s) (a t : Nat) (ht : t + 1 < s.length) : ∀ j, j ≤ s.length → rowN (rd_L1 s (t : Int)) (rd_L1 s ((t + 1 : Nat) : Int)) a a j = 0
  | 0, _ => rfl
  | j + 1, hj => by
    have ih := same_row s h a t ht j (by omega)
    have hc := h.2.1 j (by omega)
    unfold rowN
    rw [ih, if_neg]
    intro hh
    have := nodup_rd (col s j) hc.2.2 t (t + 1) (by rw [col_len]; omega) (by rw [col_len]; omega) (by rw [col_rd s j t (by omega), col_rd s j (t + 1) ht, hh.1, hh.2])
    omega
theorem same_tot (s : List (List Int)) (h : Lat s) (a : Nat) : ∀ i, i + 1 ≤ s.length → totN s a a i = 0
  | 0, _ => rfl
  | i + 1, hi => by
    have ih := same_tot s h a i (by omega)
    unfold totN
    rw [ih, same_row s h a i (by omega) s.length (Nat.le_refl _)]
theorem sumTo_le (F : Nat → Nat) : ∀ n m, n ≤ m → sumTo F n ≤ sumTo F m
  | n, 0, h => by
    have : n = 0 := by omega
    subst this; exact Nat.le_refl _
  | n, m + 1, h => by
    by_cases e : n = m + 1
    · subst e; exact Nat.le_refl _
    · have := sumTo_le F n m (by omega)
      have e2 : sumTo F (m + 1) = sumTo F m + F m := rfl
      omega

theorem leaves_l1 (s : List (List Int)) (hs : s.length ≤ 14) (h : Lat s) (a : Nat) (ha : a < s.length)
    (ih : Ev (fun k => salchowlaw36_RotationLeaves.l0 k (carryM s) s.length ((a + 1 : Nat) : Int)) true) :
    ∀ b, b ≤ s.length → Ev (fun k => salchowlaw36_RotationLeaves.l1 k (carryM s) s.length a ((sumTo (fun b => totN s a b (s.length - 1)) b : Nat) : Int) ((sumTo (fun b => totN s b a (s.length - 1)) b : Nat) : Int) (b : Int)) true := by
  have h0 := h.2.2
  have eo := out_tot s h a ha (s.length - 1) (by omega)
  have ei := in_tot s h a ha (s.length - 1) (by omega)
  have cl : (carryM s).length = s.length := mat_len _ _
  refine down s.length ?_ ?_
  · refine ev_round ?_
    simp only [salchowlaw36_RotationLeaves.l1]
    rw [wid (x := (s.length : Int) - 1) (by omega) (by omega), wid (x := (a : Int) + 1) (by omega) (by omega), eo, ei]
    exact ev_neg (by omega) (ev_pos (by omega) (ev_pos (by omega) ih))
  · intro b hb ih2
    refine ev_round ?_
    simp only [salchowlaw36_RotationLeaves.l1]
    have ra : (rd_L1 (carryM s) (a : Int)).length = s.length := by unfold carryM; rw [mat_row _ _ a ha, upto_len]
    have rb : (rd_L1 (carryM s) (b : Int)).length = s.length := by unfold carryM; rw [mat_row _ _ b hb, upto_len]
    have ab : rd (rd_L1 (carryM s) (a : Int)) (b : Int) = ((totN s a b (s.length - 1) : Nat) : Int) := mat_at _ _ a b ha hb
    have ba : rd (rd_L1 (carryM s) (b : Int)) (a : Int) = ((totN s b a (s.length - 1) : Nat) : Int) := mat_at _ _ b a hb ha
    have so : sumTo (fun b => totN s a b (s.length - 1)) (b + 1) = sumTo (fun b => totN s a b (s.length - 1)) b + totN s a b (s.length - 1) := rfl
    have si : sumTo (fun b => totN s b a (s.length - 1)) (b + 1) = sumTo (fun b => totN s b a (s.length - 1)) b + totN s b a (s.length - 1) := rfl
    have lo := sumTo_le (fun b => totN s a b (s.length - 1)) (b + 1) s.length (by omega)
    have li := sumTo_le (fun b => totN s b a (s.length - 1)) (b + 1) s.length (by omega)
    rw [ab, ba, wid (x := ((sumTo (fun b => totN s a b (s.length - 1)) b : Nat) : Int) + ((totN s a b (s.length - 1) : Nat) : Int)) (by omega) (by omega), wid (x := ((sumTo (fun b => totN s b a (s.length - 1)) b : Nat) : Int) + ((totN s b a (s.length - 1) : Nat) : Int)) (by omega) (by omega), wid (x := (b : Int) + 1) (by omega) (by omega)]
    rw [so, si] at ih2
    have ih3 : Ev (fun k => salchowlaw36_RotationLeaves.l1 k (carryM s) s.length a (((sumTo (fun b => totN s a b (s.length - 1)) b : Nat) : Int) + ((totN s a b (s.length - 1) : Nat) : Int)) (((sumTo (fun b => totN s b a (s.length - 1)) b : Nat) : Int) + ((totN s b a (s.length - 1) : Nat) : Int)) ((b : Int) + 1)) true := ih2
    refine ev_pos (by omega) (ev_pos (by omega) (ev_pos (by omega) (ev_pos (by omega) (ev_pos (by omega) (ev_pos (by omega) (ev_pos (by omega) (ev_neg (by omega) (ev_ite (fun e => ?_) (fun e => ev_pos (by omega) ih3)))))))))
    have eab : a = b := by omega
    refine ev_pos ?_ (ev_pos (by omega) ih3)
    subst eab
    rw [same_tot s h a (s.length - 1) (by omega)]; rfl
theorem RotationLeaves (l0 : List (List Int)) (hl0 : ok23 l0) : ∃ k, salchowlaw36_RotationLeaves.f k l0 = some true := by
  refine Ev.rounds (g := fun k => salchowlaw36_RotationLeaves.f k l0) ?_
  have stop : Ev (fun k => salchowlaw36_RotationLeaves.j0 k l0 true) true := by
    refine ev_round ?_
    simp only [salchowlaw36_RotationLeaves.j0]
    exact ev_pos (by simp) (ev_end rfl)
  simp only [salchowlaw36_RotationLeaves.f]
  refine ev_call awake_ev (ev_pos rfl (ev_call (small_ev l0) ?_))
  by_cases hs : Small l0
  · have hw : ∀ row ∈ l0, row.length ≤ 1000 := fun row hr => by have := hs.2 row hr; omega
    have hl := hs.1
    have hc := carry_ev l0 (by omega) hw
    refine ev_pos (by simpa using hs) (ev_call (latin_ev l0 (by omega) hw) ?_)
    by_cases h : Lat l0
    · rw [if_pos h] at hc
      rw [decide_eq_true h]
      have cl : (carryM l0).length = l0.length := mat_len _ _
      refine ev_round ?_
      simp only [salchowlaw36_RotationLeaves.j0]
      refine ev_neg (by simp) (ev_call hc (ev_pos rfl ?_))
      have e : (((carryM l0).length : Int) != (l0.length : Int)) = false := by rw [bne_eq_false_iff_eq]; omega
      rw [e]
      refine ev_round ?_
      simp only [salchowlaw36_RotationLeaves.j1]
      refine ev_neg (by simp) ?_
      have key : ∀ a, a ≤ l0.length → Ev (fun k => salchowlaw36_RotationLeaves.l0 k (carryM l0) l0.length (a : Int)) true := by
        refine down l0.length ?_ ?_
        · refine ev_round ?_
          simp only [salchowlaw36_RotationLeaves.l0]
          exact ev_neg (by omega) (ev_end rfl)
        · intro a ha ih
          refine ev_round ?_
          simp only [salchowlaw36_RotationLeaves.l0]
          exact ev_pos (by omega) (leaves_l1 l0 hl h a ha ih 0 (by omega))
      exact key 0 (by omega)
    · rw [decide_eq_false h]
      exact stop
  · exact ev_neg (by simpa using hs) stop
end Go.Proofs.Ytaodpgblleiiaaa.Pure
