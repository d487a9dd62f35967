/- Script computes the first script of least cost. -/
import Derived.Test.YtjmbkbnbepmhjaaSr
namespace Go.Proofs.Ytjmbkbnbepmhjaa.Pure
open Go.RowKit Go.Proofs.Ytjmbkbnbepmhjaa.P Go.Proofs.Ytjmbkbnbepmhjaa.E Go.Proofs.YtjmbkbnbepmhjaaW.PrintWords Go.Proofs.YtjmbkbnbepmhjaaW.PrintLast
set_option linter.unusedVariables false

theorem tbl_len (a b : List S50) : ((TBL a b).length : Int) = (a.length : Int) + 1 := by simp [TBL]
theorem tbl_row (a b : List S50) (i : Nat) (hi : i ≤ a.length) : rd_L6 (TBL a b) (i : Int) = (List.range (b.length + 1)).map fun k => Dik a b i k := by
  unfold rd_L6 TBL
  rw [Int.toNat_natCast, List.getD_eq_getElem?_getD, List.getElem?_map, List.getElem?_range (by omega)]; rfl
theorem tbl_row_len (a b : List S50) (i : Nat) (hi : i ≤ a.length) : ((rd_L6 (TBL a b) (i : Int)).length : Int) = (b.length : Int) + 1 := by
  rw [tbl_row a b i hi]; simp
theorem tbl_at (a b : List S50) (i k : Nat) (hi : i ≤ a.length) (hk : k ≤ b.length) : rd (rd_L6 (TBL a b) (i : Int)) (k : Int) = Dik a b i k := by
  rw [tbl_row a b i hi]
  unfold rd
  rw [Int.toNat_natCast, List.getD_eq_getElem?_getD, List.getElem?_map, List.getElem?_range (by omega)]; rfl
def scriptV (a b : List S50) : List S63 × Int := if a.length ≤ 30 ∧ b.length ≤ 30 then (scrR a b, 0) else ([], 6)
theorem j4_del (a b : List S50) (t : List (List Int)) (acc : List S63) (i j : Nat) (r : List S63 × Int) (hi : i < a.length) (ha : a.length ≤ 30) (hc : acc.length ≤ 60)
    (h : Ev (fun k => compare_Script.l0 k a b t (acc ++ [⟨5, zit⟩]) ((i + 1 : Nat) : Int) (j : Int)) r) : Ev (fun k => compare_Script.j4 k a b t acc (i : Int) (j : Int) false) r := by
  refine ev_round ?_
  simp only [compare_Script.j4]
  refine ev_neg (by simp) (ev_pos (by omega) (ev_pos (by omega) ?_))
  rw [up1 i a.length hi (by omega)]
  exact h
theorem j4_end (a b : List S50) (t : List (List Int)) (acc : List S63) (i j : Nat) (hi : ¬ i < a.length) : Ev (fun k => compare_Script.j4 k a b t acc (i : Int) (j : Int) false) (acc, 0) := by
  refine ev_round ?_
  simp only [compare_Script.j4]
  exact ev_neg (by simp) (ev_neg (by omega) (ev_end rfl))
theorem j4_ins (a b : List S50) (t : List (List Int)) (acc : List S63) (i j : Nat) (r : List S63 × Int) (hj : j < b.length) (hb : b.length ≤ 30) (hc : acc.length ≤ 60)
    (h : Ev (fun k => compare_Script.l0 k a b t (acc ++ [⟨4, rd_T50 b j⟩]) (i : Int) ((j + 1 : Nat) : Int)) r) : Ev (fun k => compare_Script.j4 k a b t acc (i : Int) (j : Int) true) r := by
  refine ev_round ?_
  simp only [compare_Script.j4]
  refine ev_pos (by simp) (ev_pos (by omega) (ev_pos (by omega) (ev_pos (by omega) ?_)))
  rw [up1 j b.length hj (by omega)]
  exact h
theorem j3_no (a b : List S50) (t : List (List Int)) (acc : List S63) (i j : Nat) (r : List S63 × Int) (hj : ¬ j < b.length) (h : Ev (fun k => compare_Script.j4 k a b t acc (i : Int) (j : Int) false) r) : Ev (fun k => compare_Script.j3 k a b t acc (i : Int) (j : Int)) r := by
  refine ev_round ?_
  simp only [compare_Script.j3]
  exact ev_neg (by omega) h
theorem j3_at (a b : List S50) (t : List (List Int)) (acc : List S63) (i j : Nat) (v v' : Int) (r : List S63 × Int) (hj : j < b.length) (hb : b.length ≤ 30) (ht : i < t.length) (m : List Int) (hm : rd_L6 t (i : Int) = m) (hl : m.length = b.length + 1)
    (hv : rd m (j : Int) = v) (hv' : rd m ((j + 1 : Nat) : Int) = v') (b0 : 0 ≤ v') (b1 : v' ≤ 1000)
    (h : Ev (fun k => compare_Script.j4 k a b t acc (i : Int) (j : Int) (decide (v = 2 + v'))) r) : Ev (fun k => compare_Script.j3 k a b t acc (i : Int) (j : Int)) r := by
  refine ev_round ?_
  simp only [compare_Script.j3]
  rw [hm, up1 j b.length hj (by omega), hv, hv']
  refine ev_pos (by omega) (ev_pos (by omega) (ev_pos (by omega) (ev_pos (by omega) (ev_pos (by omega) (ev_call (cost_ev 4) ?_)))))
  have e4 : costI 4 = 2 := rfl
  rw [e4, wid (by omega) (by omega)]
  refine ev_pos (by omega) (ev_pos (by omega) ?_)
  have e : (v == 2 + v') = decide (v = 2 + v') := rfl
  rw [e]
  exact h
theorem j2_no (a b : List S50) (t : List (List Int)) (acc : List S63) (i j : Nat) (r : List S63 × Int) (h : Ev (fun k => compare_Script.j3 k a b t acc (i : Int) (j : Int)) r) : Ev (fun k => compare_Script.j2 k a b t acc (i : Int) (j : Int) false) r := by
  refine ev_round ?_
  simp only [compare_Script.j2]
  exact ev_neg (by simp) h
theorem l0_at (a b : List S50) (t : List (List Int)) (acc : List S63) (i j : Nat) (r : List S63 × Int) (h : Ev (fun k => compare_Script.j2 k a b t acc (i : Int) (j : Int) (decide (i < a.length ∧ j < b.length))) r) : Ev (fun k => compare_Script.l0 k a b t acc (i : Int) (j : Int)) r := by
  refine ev_round ?_
  simp only [compare_Script.l0]
  by_cases hi : i < a.length
  · refine ev_pos (by omega) ?_
    have e : decide ((j : Int) < (b.length : Int)) = decide (i < a.length ∧ j < b.length) := by
      by_cases hj : j < b.length
      · rw [decide_eq_true (show i < a.length ∧ j < b.length from ⟨hi, hj⟩), decide_eq_true (show (j : Int) < (b.length : Int) by omega)]
      · rw [decide_eq_false (show ¬ (i < a.length ∧ j < b.length) from fun h => hj h.2), decide_eq_false (show ¬ (j : Int) < (b.length : Int) by omega)]
    rw [e]; exact h
  · refine ev_neg (by omega) ?_
    rw [decide_eq_false (show ¬ (i < a.length ∧ j < b.length) from fun h => hi h.1)] at h
    exact h
theorem j2_at (a b : List S50) (t : List (List Int)) (acc : List S63) (i j : Nat) (v u c : Int) (op : Int) (r : List S63 × Int) (hi : i < a.length) (hj : j < b.length) (ha : a.length ≤ 30) (hb : b.length ≤ 30) (hc : acc.length ≤ 60) (ht : i + 1 < t.length)
    (m m' : List Int) (hm : rd_L6 t (i : Int) = m) (hm' : rd_L6 t ((i + 1 : Nat) : Int) = m') (hl : m.length = b.length + 1) (hl' : m'.length = b.length + 1)
    (hop : opOf (rd_T50 a i) (rd_T50 b j) = op) (hcost : costI op = c) (c0 : 0 ≤ c) (c1 : c ≤ 10) (hv : rd m (j : Int) = v) (hu : rd m' ((j + 1 : Nat) : Int) = u) (b0 : 0 ≤ u) (b1 : u ≤ 1000)
    (h1 : v = c + u → Ev (fun k => compare_Script.l0 k a b t (acc ++ [if op = 1 then ⟨op, zit⟩ else ⟨op, rd_T50 b j⟩]) ((i + 1 : Nat) : Int) ((j + 1 : Nat) : Int)) r)
    (h2 : v ≠ c + u → Ev (fun k => compare_Script.j3 k a b t acc (i : Int) (j : Int)) r) : Ev (fun k => compare_Script.j2 k a b t acc (i : Int) (j : Int) true) r := by
  refine ev_round ?_
  simp only [compare_Script.j2]
  refine ev_pos (by simp) (ev_pos (by omega) (ev_pos (by omega) (ev_pos (by omega) (ev_pos (by omega) (ev_const (taking_is _ _) ?_)))))
  rw [hop, hm, up1 i a.length hi (by omega), up1 j b.length hj (by omega), hm', hv, hu]
  refine ev_pos (by omega) (ev_pos (by omega) (ev_call (cost_ev op) ?_))
  rw [hcost, wid (by omega) (by omega)]
  refine ev_pos (by omega) (ev_pos (by omega) (ev_pos (by omega) (ev_pos (by omega) ?_)))
  by_cases e : v = c + u
  · refine ev_pos e ?_
    have h := h1 e
    by_cases e1 : op = 1
    · rw [if_pos e1] at h
      exact ev_pos e1 (ev_pos (by omega) h)
    · rw [if_neg e1] at h
      exact ev_neg e1 (ev_pos (by omega) h)
  · exact ev_neg e (h2 e)
theorem key_ev (a b : List S50) (ha : a.length ≤ 30) (hb : b.length ≤ 30) : ∀ (n i j : Nat) (acc : List S63), (a.length - i) + (b.length - j) ≤ n → i ≤ a.length → j ≤ b.length → acc.length ≤ i + j →
    Ev (fun k => compare_Script.l0 k a b (TBL a b) acc (i : Int) (j : Int)) (acc ++ scrR (a.drop i) (b.drop j), 0) := by
  obtain ⟨t, htt⟩ : ∃ t, t = TBL a b := ⟨_, rfl⟩
  have htl : t.length = a.length + 1 := by have := tbl_len a b; rw [htt]; omega
  have hrow : ∀ i : Nat, i ≤ a.length → ∃ m, rd_L6 t (i : Int) = m ∧ m.length = b.length + 1 ∧ ∀ j : Nat, j ≤ b.length → rd m (j : Int) = Dik a b i j := by
    intro i hi
    refine ⟨_, rfl, ?_, fun j hj => ?_⟩
    · have := tbl_row_len a b i hi; rw [htt]; omega
    · rw [htt]; exact tbl_at a b i j hi hj
  rw [← htt]
  clear htt
  intro n
  induction n with
  | zero =>
    intro i j acc hn hi hj hc
    have e1 : a.drop i = [] := List.drop_of_length_le (by omega)
    have e2 : b.drop j = [] := List.drop_of_length_le (by omega)
    rw [e1, e2, scrR, List.append_nil]
    refine l0_at _ _ _ _ _ _ _ ?_
    rw [decide_eq_false (show ¬ (i < a.length ∧ j < b.length) by omega)]
    exact j2_no _ _ _ _ _ _ _ (j3_no _ _ _ _ _ _ _ (by omega) (j4_end _ _ _ _ _ _ (by omega)))
  | succ n ih =>
    intro i j acc hn hi hj hc
    have del : i < a.length → Ev (fun k => compare_Script.j4 k a b t acc (i : Int) (j : Int) false) (acc ++ ⟨5, zit⟩ :: scrR (a.drop (i + 1)) (b.drop j), 0) := by
      intro hi'
      have h := ih (i + 1) j (acc ++ [⟨5, zit⟩]) (by omega) (by omega) hj (by simp; omega)
      rw [List.append_assoc] at h
      exact j4_del _ _ _ _ _ _ _ hi' ha (by omega) h
    have ins : j < b.length → Ev (fun k => compare_Script.j4 k a b t acc (i : Int) (j : Int) true) (acc ++ ⟨4, rd_T50 b j⟩ :: scrR (a.drop i) (b.drop (j + 1)), 0) := by
      intro hj'
      have h := ih i (j + 1) (acc ++ [⟨4, rd_T50 b j⟩]) (by omega) hi (by omega) (by simp; omega)
      rw [List.append_assoc] at h
      exact j4_ins _ _ _ _ _ _ _ hj' hb (by omega) h
    have third : j < b.length → ∀ r, (Dik a b i j = 2 + Dik a b i (j + 1) → Ev (fun k => compare_Script.j4 k a b t acc (i : Int) (j : Int) true) r) → (Dik a b i j ≠ 2 + Dik a b i (j + 1) → Ev (fun k => compare_Script.j4 k a b t acc (i : Int) (j : Int) false) r) → Ev (fun k => compare_Script.j3 k a b t acc (i : Int) (j : Int)) r := by
      intro hj' r h1 h2
      obtain ⟨m, hm, hl, hat⟩ := hrow i hi
      have bd := Dik_bd a b i (j + 1) ha hb
      refine j3_at a b t acc i j _ _ r hj' hb (by omega) m hm hl (hat j hj) (hat (j + 1) hj') bd.1 (Int.le_trans bd.2 (by decide)) ?_
      by_cases c : Dik a b i j = 2 + Dik a b i (j + 1)
      · rw [decide_eq_true c]; exact h1 c
      · rw [decide_eq_false c]; exact h2 c
    refine l0_at _ _ _ _ _ _ _ ?_
    by_cases hi' : i < a.length
    · by_cases hj' : j < b.length
      · rw [decide_eq_true (show i < a.length ∧ j < b.length from ⟨hi', hj'⟩)]
        obtain ⟨m, hm, hl, hat⟩ := hrow i hi
        obtain ⟨m', hm', hl', hat'⟩ := hrow (i + 1) hi'
        have bd1 := Dik_bd a b (i + 1) (j + 1) ha hb
        have cb := cost_bd (rd_T50 a i) (rd_T50 b j)
        have ec : costI (opOf (rd_T50 a i) (rd_T50 b j)) = costOf (opOf (rd_T50 a i) (rd_T50 b j)) := by
          rcases opOf_is (rd_T50 a i) (rd_T50 b j) with e | e | e <;> rw [e] <;> rfl
        have ea := drop50 a i hi'
        have eb := drop50 b j hj'
        have eD : Dik a b i j = D (rd_T50 a i :: a.drop (i + 1)) (rd_T50 b j :: b.drop (j + 1)) := by unfold Dik; rw [ea, eb]
        have eD1 : Dik a b i (j + 1) = D (rd_T50 a i :: a.drop (i + 1)) (b.drop (j + 1)) := by unfold Dik; rw [ea]
        rw [ea, eb, scrR]
        refine j2_at a b t acc i j _ _ _ _ _ hi' hj' ha hb (by omega) (by omega) m m' hm hm' hl hl' rfl ec cb.1 (Int.le_trans cb.2 (by decide)) (hat j hj) (hat' (j + 1) hj') bd1.1 (Int.le_trans bd1.2 (by decide)) (fun c1 => ?_) (fun c1 => ?_)
        · have c1' : D (rd_T50 a i :: a.drop (i + 1)) (rd_T50 b j :: b.drop (j + 1)) = costOf (opOf (rd_T50 a i) (rd_T50 b j)) + D (a.drop (i + 1)) (b.drop (j + 1)) := by rw [← eD]; exact c1
          rw [if_pos c1']
          have h := ih (i + 1) (j + 1) (acc ++ [stepOf (rd_T50 a i) (rd_T50 b j)]) (by omega) (by omega) (by omega) (by simp; omega)
          rw [List.append_assoc] at h
          have es : (if opOf (rd_T50 a i) (rd_T50 b j) = 1 then (⟨opOf (rd_T50 a i) (rd_T50 b j), zit⟩ : S63) else ⟨opOf (rd_T50 a i) (rd_T50 b j), rd_T50 b j⟩) = stepOf (rd_T50 a i) (rd_T50 b j) := by
            unfold stepOf
            by_cases c : opOf (rd_T50 a i) (rd_T50 b j) = 1
            · rw [if_pos c, if_pos c, c]
            · rw [if_neg c, if_neg c]
          rw [es]; exact h
        · have c1' : ¬ D (rd_T50 a i :: a.drop (i + 1)) (rd_T50 b j :: b.drop (j + 1)) = costOf (opOf (rd_T50 a i) (rd_T50 b j)) + D (a.drop (i + 1)) (b.drop (j + 1)) := by rw [← eD]; exact c1
          rw [if_neg c1']
          refine third hj' _ (fun c2 => ?_) (fun c2 => ?_)
          · have c2' : D (rd_T50 a i :: a.drop (i + 1)) (rd_T50 b j :: b.drop (j + 1)) = 2 + D (rd_T50 a i :: a.drop (i + 1)) (b.drop (j + 1)) := by rw [← eD, ← eD1]; exact c2
            rw [if_pos c2']
            have h := ins hj'
            rw [ea] at h; exact h
          · have c2' : ¬ D (rd_T50 a i :: a.drop (i + 1)) (rd_T50 b j :: b.drop (j + 1)) = 2 + D (rd_T50 a i :: a.drop (i + 1)) (b.drop (j + 1)) := by rw [← eD, ← eD1]; exact c2
            rw [if_neg c2']
            have h := del hi'
            rw [eb] at h; exact h
      · rw [decide_eq_false (show ¬ (i < a.length ∧ j < b.length) from fun h => hj' h.2)]
        have e2 : b.drop j = [] := List.drop_of_length_le (by omega)
        have h := del hi'
        rw [e2] at h ⊢
        rw [drop50 a i hi', scrR]
        exact j2_no _ _ _ _ _ _ _ (j3_no _ _ _ _ _ _ _ hj' h)
    · rw [decide_eq_false (show ¬ (i < a.length ∧ j < b.length) from fun h => hi' h.1)]
      have e1 : a.drop i = [] := List.drop_of_length_le (by omega)
      refine j2_no _ _ _ _ _ _ _ ?_
      by_cases hj' : j < b.length
      · refine third hj' _ (fun _ => ?_) (fun h => ?_)
        · have h := ins hj'
          rw [e1] at h ⊢
          rw [drop50 b j hj', scrR]; exact h
        · exfalso
          apply h
          unfold Dik
          rw [e1, D_nil, D_nil, List.length_drop, List.length_drop]
          omega
      · have e2 : b.drop j = [] := List.drop_of_length_le (by omega)
        rw [e1, e2, scrR, List.append_nil]
        exact j3_no _ _ _ _ _ _ _ hj' (j4_end _ _ _ _ _ _ hi')
theorem script_ev (a b : List S50) : Ev (fun k => compare_Script.f k a b) (scriptV a b) := by
  unfold compare_Script.f scriptV
  have stop : ¬ (a.length ≤ 30 ∧ b.length ≤ 30) → Ev (fun k => compare_Script.j0 k a b true) (if a.length ≤ 30 ∧ b.length ≤ 30 then (scrR a b, 0) else ([], 6)) := fun h => by
    rw [if_neg h]
    refine ev_round ?_
    simp only [compare_Script.j0]
    exact ev_pos (by simp) (ev_end rfl)
  refine ev_ite (fun h => stop (by omega)) (fun h => ?_)
  by_cases hb : (b.length : Int) > 30
  · rw [decide_eq_true hb]; exact stop (by omega)
  rw [decide_eq_false hb, if_pos ⟨by omega, by omega⟩]
  have ha30 : a.length ≤ 30 := by omega
  have hb30 : b.length ≤ 30 := by omega
  refine ev_round ?_
  simp only [compare_Script.j0]
  refine ev_neg (by simp) (ev_const (a := TBL a b) (by unfold compare_table.f; rw [if_pos ha30, if_pos hb30]) ?_)
  exact key_ev a b ha30 hb30 (a.length + b.length) 0 0 [] (by omega) (by omega) (by omega) (by simp)
end Go.Proofs.Ytjmbkbnbepmhjaa.Pure
