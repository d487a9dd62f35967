/- The plain side of Carry: how many groups go from an apparatus directly to another one. -/
import Derived.Test.YtaodpgblleiiaaaSl
import Derived.Test.YtaodpgblleiiaaaPx12
namespace Go.Proofs.Ytaodpgblleiiaaa.E
open Go.RowKit Go.Proofs.YtaodpgblleiiaaaW.PrintWords Go.Proofs.YtaodpgblleiiaaaW.PrintLast Go.Proofs.Ytaodpgblleiiaaa.P
set_option linter.unusedVariables false

/-- Of the first j groups: how many are at a in the row p and at b in the row c. -/
def rowN (p c : List Int) (a b : Nat) : Nat → Nat
  | 0 => 0
  | j + 1 => rowN p c a b j + if rd p (j : Int) = a ∧ rd c (j : Int) = b then 1 else 0
/-- .. in the first i passages. -/
def totN (s : List (List Int)) (a b : Nat) : Nat → Nat
  | 0 => 0
  | i + 1 => totN s a b i + rowN (rd_L1 s (i : Int)) (rd_L1 s ((i + 1 : Nat) : Int)) a b s.length
theorem rowN_le (p c : List Int) (a b : Nat) : ∀ j, rowN p c a b j ≤ j
  | 0 => Nat.le_refl _
  | j + 1 => by
    have := rowN_le p c a b j
    unfold rowN
    split <;> omega
theorem totN_le (s : List (List Int)) (a b : Nat) : ∀ i, totN s a b i ≤ i * s.length
  | 0 => by simp [totN]
  | i + 1 => by
    have := totN_le s a b i
    have := rowN_le (rd_L1 s (i : Int)) (rd_L1 s ((i + 1 : Nat) : Int)) a b s.length
    unfold totN
    rw [Nat.add_mul]; omega
def mat (n : Nat) (F : Nat → Nat → Nat) : List (List Int) := upto (fun a => upto (fun b => ((F a b : Nat) : Int)) n) n
theorem mat_len (n : Nat) (F : Nat → Nat → Nat) : (mat n F).length = n := upto_len _ _
theorem mat_row (n : Nat) (F : Nat → Nat → Nat) (a : Nat) (ha : a < n) : rd_L1 (mat n F) (a : Int) = upto (fun b => ((F a b : Nat) : Int)) n := upto_rdL _ n a ha
theorem mat_at (n : Nat) (F : Nat → Nat → Nat) (a b : Nat) (ha : a < n) (hb : b < n) : rd (rd_L1 (mat n F) (a : Int)) (b : Int) = ((F a b : Nat) : Int) := by
  rw [mat_row n F a ha]; exact upto_rd _ n b hb
theorem upto_set {α : Type} (F G : Nat → α) (n v : Nat) (hv : v < n) (h : ∀ i, i ≠ v → G i = F i) : (upto F n).set v (G v) = upto G n := by
  unfold upto
  apply List.ext_getElem (by simp)
  intro i h1 h2
  rw [List.getElem_set]
  split
  · rename_i e; subst e; simp
  · rename_i e
    simp
    exact (h i (by omega)).symm
theorem upto_congr {α : Type} (F G : Nat → α) (n : Nat) (h : ∀ i, i < n → F i = G i) : upto F n = upto G n := by
  unfold upto
  exact List.map_congr_left (fun i hi => h i (List.mem_range.mp hi))
theorem mat_set (n : Nat) (F G : Nat → Nat → Nat) (a b : Nat) (ha : a < n) (hb : b < n) (h1 : G a b = F a b + 1) (h2 : ∀ i j, ¬ (i = a ∧ j = b) → G i j = F i j) :
    (mat n F).set a ((rd_L1 (mat n F) (a : Int)).set b (((F a b : Nat) : Int) + 1)) = mat n G := by
  rw [mat_row n F a ha]
  have e : (upto (fun b => ((F a b : Nat) : Int)) n).set b (((F a b : Nat) : Int) + 1) = upto (fun b => ((G a b : Nat) : Int)) n := by
    have e0 : ((F a b : Nat) : Int) + 1 = ((G a b : Nat) : Int) := by rw [h1]; omega
    rw [e0]
    exact upto_set _ (fun b => ((G a b : Nat) : Int)) n b hb (fun i hi => by rw [h2 a i (fun e => hi e.2)])
  rw [e]
  exact upto_set (fun a => upto (fun b => ((F a b : Nat) : Int)) n) (fun a => upto (fun b => ((G a b : Nat) : Int)) n) n a ha (fun i hi => upto_congr _ _ n (fun j _ => by rw [h2 i j (fun e => hi e.1)]))

def carryM (s : List (List Int)) : List (List Int) := mat s.length (fun a b => totN s a b (s.length - 1))

theorem carry_l2 (s : List (List Int)) (hs : s.length ≤ 1000) (hw : ∀ row ∈ s, Good s.length row) (t : Nat) (ht : t + 1 < s.length) (r : List (List Int) × Int)
    (ih : Ev (fun k => rotation_Carry.l1 k s s.length (mat s.length (fun a b => totN s a b (t + 1))) ((t + 1 + 1 : Nat) : Int)) r) :
    ∀ j, j ≤ s.length → Ev (fun k => rotation_Carry.l2 k s s.length (mat s.length (fun a b => totN s a b t + rowN (rd_L1 s (t : Int)) (rd_L1 s ((t + 1 : Nat) : Int)) a b j)) ((t + 1 : Nat) : Int) s.length (j : Int)) r := by
  refine down s.length ?_ ?_
  · refine ev_round ?_
    simp only [rotation_Carry.l2]
    rw [wid (x := ((t + 1 : Nat) : Int) + 1) (by omega) (by omega)]
    exact ev_neg (by omega) ih
  · intro j hj ih2
    refine ev_round ?_
    simp only [rotation_Carry.l2]
    have ew : wrap64 (((t + 1 : Nat) : Int) - 1) = (t : Int) := by rw [wid (by omega) (by omega)]; omega
    rw [ew, wid (x := (j : Int) + 1) (by omega) (by omega)]
    have g1 := hw _ (rdL_mem s t (by omega))
    have g2 := hw _ (rdL_mem s (t + 1) ht)
    have m1 := g1.2.1 _ (rd_mem (rd_L1 s (t : Int)) j (by have := g1.1; omega))
    have m2 := g2.2.1 _ (rd_mem (rd_L1 s ((t + 1 : Nat) : Int)) j (by have := g2.1; omega))
    have l1 := g1.1
    have l2 := g2.1
    obtain ⟨a, ha⟩ : ∃ v : Nat, rd (rd_L1 s (t : Int)) (j : Int) = v := ⟨(rd (rd_L1 s (t : Int)) (j : Int)).toNat, by omega⟩
    obtain ⟨b, hb⟩ : ∃ v : Nat, rd (rd_L1 s ((t + 1 : Nat) : Int)) (j : Int) = v := ⟨(rd (rd_L1 s ((t + 1 : Nat) : Int)) (j : Int)).toNat, by omega⟩
    have ha' : a < s.length := by omega
    have hb' : b < s.length := by omega
    have ml := mat_len s.length (fun a b => totN s a b t + rowN (rd_L1 s (t : Int)) (rd_L1 s ((t + 1 : Nat) : Int)) a b j)
    have mr : (rd_L1 (mat s.length (fun a b => totN s a b t + rowN (rd_L1 s (t : Int)) (rd_L1 s ((t + 1 : Nat) : Int)) a b j)) (a : Int)).length = s.length := by rw [mat_row _ _ a ha', upto_len]
    have ma := mat_at s.length (fun a b => totN s a b t + rowN (rd_L1 s (t : Int)) (rd_L1 s ((t + 1 : Nat) : Int)) a b j) a b ha' hb'
    rw [ha, hb, ma, Int.toNat_natCast, Int.toNat_natCast]
    have b1 := totN_le s a b t
    have b2 := rowN_le (rd_L1 s (t : Int)) (rd_L1 s ((t + 1 : Nat) : Int)) a b j
    have b3 : t * s.length ≤ 1000 * 1000 := Nat.mul_le_mul (by omega) hs
    rw [wid (by omega) (by omega)]
    have e := mat_set s.length (fun a b => totN s a b t + rowN (rd_L1 s (t : Int)) (rd_L1 s ((t + 1 : Nat) : Int)) a b j) (fun a b => totN s a b t + rowN (rd_L1 s (t : Int)) (rd_L1 s ((t + 1 : Nat) : Int)) a b (j + 1)) a b ha' hb'
      (by show _ + (_ + if _ then 1 else 0) = _ + _ + 1; rw [if_pos ⟨ha, hb⟩]; omega)
      (fun i i' h => by show _ + (_ + if _ then 1 else 0) = _; rw [if_neg (by rw [ha, hb]; intro e; exact h ⟨by omega, by omega⟩)]; omega)
    rw [e]
    exact ev_pos (by omega) (ev_pos (by omega) (ev_pos (by omega) (ev_pos (by omega) (ev_pos (by omega) (ev_pos (by omega) (ev_pos (by omega) (ev_pos (by omega) (ev_pos (by omega) (ev_pos (by omega) (ev_pos (by omega) (ev_pos (by omega) ih2)))))))))))
theorem carry_l1 (s : List (List Int)) (hs : s.length ≤ 1000) (h0 : 0 < s.length) (hw : ∀ row ∈ s, Good s.length row) :
    ∀ t, t ≤ s.length - 1 → Ev (fun k => rotation_Carry.l1 k s s.length (mat s.length (fun a b => totN s a b t)) ((t + 1 : Nat) : Int)) (carryM s, 0) := by
  refine down (s.length - 1) ?_ ?_
  · refine ev_round ?_
    simp only [rotation_Carry.l1]
    exact ev_neg (by omega) (ev_end rfl)
  · intro t ht ih
    refine ev_round ?_
    simp only [rotation_Carry.l1]
    exact ev_pos (by omega) (carry_l2 s hs hw t (by omega) _ ih 0 (by omega))
theorem carry_l0 (s : List (List Int)) (hs : s.length ≤ 1000) (h0 : 0 < s.length) (hw : ∀ row ∈ s, Good s.length row) :
    ∀ a, a ≤ s.length → Ev (fun k => rotation_Carry.l0 k s s.length (upto (fun i => if i < a then List.replicate s.length 0 else []) s.length) s.length (a : Int)) (carryM s, 0) := by
  refine down s.length ?_ ?_
  · refine ev_round ?_
    simp only [rotation_Carry.l0]
    refine ev_neg (by omega) ?_
    have e : upto (fun i => if i < s.length then List.replicate s.length (0 : Int) else []) s.length = mat s.length (fun a b => totN s a b 0) := by
      unfold mat
      refine upto_congr _ _ _ (fun i hi => ?_)
      rw [if_pos hi]
      unfold upto
      apply List.ext_getElem (by simp)
      intro j h1 h2
      simp [totN]
    rw [e]
    exact carry_l1 s hs h0 hw 0 (by omega)
  · intro a ha ih
    refine ev_round ?_
    simp only [rotation_Carry.l0]
    rw [wid (by omega) (by omega), Int.toNat_natCast, Int.toNat_natCast]
    have e := upto_set (fun i => if i < a then List.replicate s.length (0 : Int) else []) (fun i => if i < a + 1 then List.replicate s.length (0 : Int) else []) s.length a ha (fun i hi => by
      by_cases h : i < a
      · rw [if_pos (by omega), if_pos h]
      · rw [if_neg (by omega), if_neg h])
    rw [if_pos (by omega)] at e
    rw [e]
    exact ev_pos (by omega) (ev_pos (by omega) (ev_pos (by omega) (ev_pos (by omega) (ev_pos (by rw [upto_len]; omega) ih))))
theorem carry_ev (s : List (List Int)) (hs : s.length ≤ 1000) (hw : ∀ row ∈ s, row.length ≤ 1000) : Ev (fun k => rotation_Carry.f k s) (if Lat s then (carryM s, 0) else ([], 1)) := by
  simp only [rotation_Carry.f]
  refine ev_call (latin_ev s hs hw) ?_
  by_cases h : Lat s
  · rw [decide_eq_true h, if_pos h]
    refine ev_pos rfl (ev_pos (by omega) (ev_pos (by omega) ?_))
    have e : List.replicate (s.length : Int).toNat ([] : List Int) = upto (fun i => if i < 0 then List.replicate s.length 0 else []) s.length := by
      rw [Int.toNat_natCast]
      unfold upto
      apply List.ext_getElem (by simp)
      intro j h1 h2
      simp
    rw [e]
    exact carry_l0 s hs h.2.2 h.1 0 (by omega)
  · rw [decide_eq_false h, if_neg h]
    exact ev_neg (by simp) (ev_end rfl)

end Go.Proofs.Ytaodpgblleiiaaa.E
