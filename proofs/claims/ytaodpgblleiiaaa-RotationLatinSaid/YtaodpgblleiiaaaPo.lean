/- The plain side of start orders and positions. -/
import Derived.Test.YtaodpgblleiiaaaSl
import Derived.Test.YtaodpgblleiiaaaPx3
import Derived.Test.YtaodpgblleiiaaaPx7
import Derived.Test.YtaodpgblleiiaaaPx8
namespace Go.Proofs.Ytaodpgblleiiaaa.E
open Go.RowKit Go.Proofs.YtaodpgblleiiaaaW.PrintWords Go.Proofs.YtaodpgblleiiaaaW.PrintLast Go.Proofs.Ytaodpgblleiiaaa.P
set_option linter.unusedVariables false

def ordRow (k t : Nat) : List Int := upto (fun p => (((p + t) % k : Nat) : Int)) k
def ord (k n : Nat) : List (List Int) := upto (ordRow k) n
theorem ord_l1 (m n : Nat) (hm : 1 ≤ m ∧ m ≤ 64) (hn : 1 ≤ n ∧ n ≤ 64) (t : Nat) (ht : t < n) (x4 : List (List Int)) (hx : x4.length = t) (r : List (List Int) × Int)
    (ih : Ev (fun k => rotation_Orders.l0 k m (x4 ++ [ordRow m t]) n ((t + 1 : Nat) : Int)) r) :
    ∀ j, j ≤ m → Ev (fun k => rotation_Orders.l1 k m x4 t (upto (fun g => (((g + t) % m : Nat) : Int)) j) n t m (j : Int)) r := by
  refine down m ?_ ?_
  · refine ev_round ?_
    simp only [rotation_Orders.l1]
    refine ev_neg (by omega) (ev_pos (by omega) ?_)
    rw [wid (by omega) (by omega)]
    exact ih
  · intro j hj ih2
    refine ev_round ?_
    simp only [rotation_Orders.l1]
    refine ev_pos (by omega) (ev_neg (by omega) (ev_pos (by rw [upto_len]; omega) ?_))
    rw [wid (by omega) (by omega), wid (by omega) (by omega)]
    rw [upto_succ] at ih2
    have e : Int.tmod ((j : Int) + (t : Int)) (m : Int) = (((j + t) % m : Nat) : Int) := by rw [← tmod_nat]; rfl
    rw [e]
    exact ih2
theorem ord_l0 (m n : Nat) (hm : 1 ≤ m ∧ m ≤ 64) (hn : 1 ≤ n ∧ n ≤ 64) : ∀ t, t ≤ n → Ev (fun k => rotation_Orders.l0 k m (upto (ordRow m) t) n (t : Int)) (ord m n, 0) := by
  refine down n ?_ ?_
  · refine ev_round ?_
    simp only [rotation_Orders.l0]
    exact ev_neg (by omega) (ev_end rfl)
  · intro t ht ih
    refine ev_round ?_
    simp only [rotation_Orders.l0]
    refine ev_pos (by omega) ?_
    rw [upto_succ] at ih
    exact ord_l1 m n hm hn t ht _ (upto_len _ _) _ ih 0 (by omega)
theorem ord_ev (m n : Nat) (hm : 1 ≤ m ∧ m ≤ 64) (hn : 1 ≤ n ∧ n ≤ 64) : Ev (fun k => rotation_Orders.f k m n) (ord m n, 0) := by
  simp only [rotation_Orders.f]
  refine ev_const (size_ev m) (ev_pos (by simp; omega) (ev_const (size_ev n) (ev_round ?_)))
  simp only [rotation_Orders.j0]
  exact ev_neg (by simp; omega) (ord_l0 m n hm hn 0 (by omega))
theorem ord_no (m n : Int) (h : ¬ ((1 ≤ m ∧ m ≤ 64) ∧ (1 ≤ n ∧ n ≤ 64))) : Ev (fun k => rotation_Orders.f k m n) ([], 1) := by
  have g : Ev (fun k => rotation_Orders.j0 k m n true) ([], 1) := by
    refine ev_round ?_
    simp only [rotation_Orders.j0]
    exact ev_pos (by simp) (ev_end rfl)
  simp only [rotation_Orders.f]
  refine ev_const (size_ev m) (ev_ite (fun h1 => ?_) (fun h1 => g))
  have h1 := of_decide_eq_true h1
  refine ev_const (size_ev n) ?_
  have e : (!decide (1 ≤ n ∧ n ≤ 64)) = true := by simp; omega
  rw [e]; exact g
theorem reford_l1 (m n : Nat) (hm : 1 ≤ m ∧ m ≤ 64) (hn : 1 ≤ n ∧ n ≤ 64) (t : Nat) (ht : t < n) (x4 : List (List Int)) (hx : x4.length = t) (r : List (List Int))
    (ih : Ev (fun k => salchowref36_Orders.l0 k m n (x4 ++ [ordRow m t]) ((t + 1 : Nat) : Int)) r) :
    ∀ j, j ≤ m → Ev (fun k => salchowref36_Orders.l1 k m n x4 t (upto (fun g => (((g + t) % m : Nat) : Int)) j) (j : Int)) r := by
  refine down m ?_ ?_
  · refine ev_round ?_
    simp only [salchowref36_Orders.l1]
    refine ev_neg (by omega) (ev_pos (by omega) ?_)
    rw [wid (by omega) (by omega)]
    exact ih
  · intro j hj ih2
    refine ev_round ?_
    simp only [salchowref36_Orders.l1]
    refine ev_pos (by omega) (ev_neg (by omega) (ev_pos (by rw [upto_len]; omega) ?_))
    rw [wid (by omega) (by omega), wid (by omega) (by omega)]
    rw [upto_succ] at ih2
    have e : Int.tmod ((j : Int) + (t : Int)) (m : Int) = (((j + t) % m : Nat) : Int) := by rw [← tmod_nat]; rfl
    rw [e]
    exact ih2
theorem reford_l0 (m n : Nat) (hm : 1 ≤ m ∧ m ≤ 64) (hn : 1 ≤ n ∧ n ≤ 64) : ∀ t, t ≤ n → Ev (fun k => salchowref36_Orders.l0 k m n (upto (ordRow m) t) (t : Int)) (ord m n) := by
  refine down n ?_ ?_
  · refine ev_round ?_
    simp only [salchowref36_Orders.l0]
    exact ev_neg (by omega) (ev_end rfl)
  · intro t ht ih
    refine ev_round ?_
    simp only [salchowref36_Orders.l0]
    refine ev_pos (by omega) ?_
    rw [upto_succ] at ih
    exact reford_l1 m n hm hn t ht _ (upto_len _ _) _ ih 0 (by omega)
theorem reford_ev (m n : Nat) (hm : 1 ≤ m ∧ m ≤ 64) (hn : 1 ≤ n ∧ n ≤ 64) : Ev (fun k => salchowref36_Orders.f k m n) (ord m n) := by
  simp only [salchowref36_Orders.f]
  exact reford_l0 m n hm hn 0 (by omega)

/-- The sum for member m behind the first j positions of a row. -/
def addTo (row : List Int) (m : Int) : Nat → Int → Int
  | 0, s => s
  | j + 1, s => if rd row (j : Int) = m then wrap64 (addTo row m j s + (j : Int)) else addTo row m j s
def tot (os : List (List Int)) (m : Int) : Nat → Int
  | 0 => 0
  | i + 1 => addTo (rd_L1 os (i : Int)) m (rd_L1 os (i : Int)).length (tot os m i)
def sums (n : Nat) (F : Int → Int) : List Int := upto (fun m => F (m : Int)) n
theorem sums_set (n : Nat) (F G : Int → Int) (v : Nat) (hv : v < n) (hG : ∀ m : Int, m ≠ v → G m = F m) : (sums n F).set v (G v) = sums n G := by
  unfold sums upto
  apply List.ext_getElem (by simp)
  intro i h1 h2
  rw [List.getElem_set]
  split
  · rename_i e; subst e; simp
  · rename_i e
    simp
    exact (hG _ (by omega)).symm

theorem pos_l1 (n : Nat) (os : List (List Int)) (row : List Int) (hl : row.length ≤ 1000) (hrow : ∀ x ∈ row, 0 ≤ x ∧ x < (n : Int)) (S : Int → Int) (i : Int) (r : List Int × Int)
    (ih : Ev (fun k => rotation_Positions.l0 k n (sums n (fun m => addTo row m row.length (S m))) os os.length (wrap64 (i + 1))) r) :
    ∀ j, j ≤ row.length → Ev (fun k => rotation_Positions.l1 k n (sums n (fun m => addTo row m j (S m))) os os.length i row row.length (j : Int)) r := by
  refine down row.length ?_ ?_
  · refine ev_round ?_
    simp only [rotation_Positions.l1]
    exact ev_neg (by omega) ih
  · intro j hj ih2
    refine ev_round ?_
    simp only [rotation_Positions.l1]
    have hm := hrow _ (rd_mem row j hj)
    obtain ⟨v, hv⟩ : ∃ v : Nat, rd row (j : Int) = v := ⟨(rd row (j : Int)).toNat, by omega⟩
    have hvn : v < n := by omega
    rw [hv, Int.toNat_natCast, wid (x := (j : Int) + 1) (by omega) (by omega)]
    refine ev_pos (by omega) (ev_pos (by omega) (ev_pos (by omega) (ev_pos (by omega) (ev_pos (by unfold sums; rw [upto_len]; omega) ?_))))
    have e := sums_set n (fun m => addTo row m j (S m)) (fun m => addTo row m (j + 1) (S m)) v hvn (fun m hne => by
      show (if rd row (j : Int) = m then _ else _) = _
      rw [if_neg (by rw [hv]; exact fun e => hne e.symm)])
    have e1 : rd (sums n (fun m => addTo row m j (S m))) (v : Int) = addTo row v j (S v) := upto_rd _ n v hvn
    have e2 : addTo row (v : Int) (j + 1) (S v) = wrap64 (addTo row v j (S v) + (j : Int)) := by
      show (if rd row (j : Int) = (v : Int) then _ else _) = _
      rw [if_pos hv]
    rw [e1, ← e2, e]
    exact ih2
/-- The orders are ones of the same members. -/
def Ord (os : List (List Int)) : Prop := 0 < os.length ∧ 0 < (rd_L1 os 0).length ∧ ∀ row ∈ os, Good (rd_L1 os 0).length row
instance (os : List (List Int)) : Decidable (Ord os) := by unfold Ord; infer_instance
theorem pos_l0 (os : List (List Int)) (hs : os.length ≤ 1000) (hw : ∀ row ∈ os, row.length ≤ 1000) (h0 : 0 < os.length) (h1 : 0 < (rd_L1 os 0).length) : ∀ i, i ≤ os.length → (∀ row ∈ os.take i, Good (rd_L1 os 0).length row) →
    Ev (fun k => rotation_Positions.l0 k (rd_L1 os 0).length (sums (rd_L1 os 0).length (fun m => tot os m i)) os os.length (i : Int)) (if Ord os then (sums (rd_L1 os 0).length (fun m => tot os m os.length), 0) else ([], 1)) := by
  have hm0 := hw _ (rdL_mem os 0 h0)
  have hm0' : (rd_L1 os 0).length ≤ 1000 := hm0
  refine down os.length ?_ ?_
  · intro hc
    rw [List.take_length] at hc
    rw [if_pos ⟨h0, h1, hc⟩]
    refine ev_round ?_
    simp only [rotation_Positions.l0]
    exact ev_neg (by omega) (ev_end rfl)
  · intro i hi ih hc
    have hm := rdL_mem os i hi
    refine ev_round ?_
    simp only [rotation_Positions.l0]
    refine ev_pos (by omega) (ev_pos (by omega) (ev_pos (by omega) (ev_call (perm_ev _ _ hm0' (hw _ hm)) ?_)))
    by_cases h : Good (rd_L1 os 0).length (rd_L1 os (i : Int))
    · refine ev_pos (by simpa using h) ?_
      refine pos_l1 (rd_L1 os 0).length os (rd_L1 os (i : Int)) (hw _ hm) h.2.1 (fun m => tot os m i) i _ ?_ 0 (by omega)
      rw [wid (by omega) (by omega)]
      refine ih ?_
      intro row hr
      rw [List.take_succ_eq_append_getElem hi, List.mem_append, List.mem_singleton] at hr
      rcases hr with hr | hr
      · exact hc row hr
      · rw [hr, ← rdL_nat os i hi]; exact h
    · rw [if_neg (fun o => h (o.2.2 _ hm))]
      exact ev_neg (by simpa using h) (ev_end rfl)
theorem positions_ev (os : List (List Int)) (hs : os.length ≤ 1000) (hw : ∀ row ∈ os, row.length ≤ 1000) :
    Ev (fun k => rotation_Positions.f k os) (if Ord os then (sums (rd_L1 os 0).length (fun m => tot os m os.length), 0) else ([], 1)) := by
  have no : ¬ Ord os → Ev (fun k => rotation_Positions.j0 k os true) (if Ord os then (sums (rd_L1 os 0).length (fun m => tot os m os.length), 0) else ([], 1)) := fun h => by
    rw [if_neg h]
    refine ev_round ?_
    simp only [rotation_Positions.j0]
    exact ev_pos (by simp) (ev_end rfl)
  simp only [rotation_Positions.f]
  by_cases h0 : 0 < os.length
  · refine ev_neg (by omega) (ev_pos (by omega) ?_)
    by_cases h1 : 0 < (rd_L1 os 0).length
    · have hm0 := hw _ (rdL_mem os 0 h0)
      have hm0' : (rd_L1 os 0).length ≤ 1000 := hm0
      have e : (((rd_L1 os 0).length : Int) == 0) = false := by rw [beq_eq_false_iff_ne]; omega
      rw [e]
      refine ev_round ?_
      simp only [rotation_Positions.j0]
      refine ev_neg (by simp) (ev_pos (by omega) (ev_pos (by omega) (ev_pos (by omega) ?_)))
      have e2 : List.replicate (((rd_L1 os 0).length : Int)).toNat (0 : Int) = sums (rd_L1 os 0).length (fun m => tot os m 0) := by
        rw [Int.toNat_natCast]
        unfold sums upto
        apply List.ext_getElem (by simp)
        intro i h1 h2
        simp [tot]
      rw [e2]
      exact pos_l0 os hs hw h0 h1 0 (by omega) (fun row hr => by simp at hr)
    · have e : (((rd_L1 os 0).length : Int) == 0) = true := by rw [beq_iff_eq]; omega
      rw [e]
      exact no (fun o => h1 o.2.1)
  · exact ev_pos (by omega) (no (fun o => h0 o.1))
end Go.Proofs.Ytaodpgblleiiaaa.E
