/- The plain side of the reference's Small, Once, Ordered, Positions, Latin. -/
import Derived.Test.YtaodpgblleiiaaaPo
import Derived.Test.YtaodpgblleiiaaaPx9
namespace Go.Proofs.Ytaodpgblleiiaaa.E
open Go.RowKit Go.Proofs.YtaodpgblleiiaaaW.PrintWords Go.Proofs.YtaodpgblleiiaaaW.PrintLast Go.Proofs.Ytaodpgblleiiaaa.P
set_option linter.unusedVariables false

def Small (s : List (List Int)) : Prop := s.length ≤ 14 ∧ ∀ row ∈ s, row.length ≤ 14
instance (s : List (List Int)) : Decidable (Small s) := by unfold Small; infer_instance
theorem small_l (s : List (List Int)) (hs : s.length ≤ 14) : ∀ j, j ≤ s.length → (∀ row ∈ s.take j, row.length ≤ 14) → Ev (fun k => salchowref36_Small.l0 k s (j : Int)) (decide (Small s)) := by
  refine down s.length ?_ ?_
  · intro h
    rw [List.take_length] at h
    refine ev_round ?_
    simp only [salchowref36_Small.l0]
    exact ev_neg (by omega) (ev_end (decide_eq_true (show Small s from ⟨hs, h⟩)).symm)
  · intro j hj ih h
    refine ev_round ?_
    simp only [salchowref36_Small.l0]
    rw [wid (by omega) (by omega)]
    have hm := rdL_mem s j hj
    refine ev_pos (by omega) (ev_pos (by omega) (ev_ite (fun h1 => ev_end ?_) (fun h1 => ih ?_)))
    · symm; rw [decide_eq_false_iff_not]
      intro hh; have := hh.2 _ hm; omega
    · intro row hr
      rw [List.take_succ_eq_append_getElem hj, List.mem_append, List.mem_singleton] at hr
      rcases hr with hr | hr
      · exact h row hr
      · rw [hr, ← rdL_nat s j hj]; omega
theorem small_ev (s : List (List Int)) : Ev (fun k => salchowref36_Small.f k s) (decide (Small s)) := by
  simp only [salchowref36_Small.f]
  refine ev_ite (fun h => ev_end ?_) (fun h => small_l s (by omega) 0 (by omega) (fun row hr => by simp at hr))
  symm; rw [decide_eq_false_iff_not]
  intro hh; have := hh.1; omega

theorem once_in (l : List Int) (n : Nat) (hl : l.length = n) (hn : n ≤ 1000) (i : Nat) (hi : i < n) (hd : (l.take i).Nodup) (r : Bool)
    (h1 : (l.take (i + 1)).Nodup → Ev (fun k => salchowref36_Once.l0 k l n ((i + 1 : Nat) : Int)) r) (h0 : ¬ l.Nodup → r = false) :
    ∀ j, j ≤ i → (∀ x ∈ l.take j, x ≠ rd l (i : Int)) → Ev (fun k => salchowref36_Once.l1 k l n (i : Int) (j : Int)) r := by
  refine down i ?_ ?_
  · intro h
    refine ev_round ?_
    simp only [salchowref36_Once.l1]
    rw [wid (by omega) (by omega)]
    refine ev_neg (by omega) (h1 ?_)
    rw [take_next l i (by omega)]
    refine List.nodup_append.mpr ⟨hd, by simp, ?_⟩
    intro a ha b hb
    rw [List.mem_singleton.mp hb]
    exact h a ha
  · intro j hj ih h
    refine ev_round ?_
    simp only [salchowref36_Once.l1]
    rw [wid (by omega) (by omega)]
    refine ev_pos (by omega) (ev_pos (by omega) (ev_pos (by omega) (ev_pos (by omega) (ev_pos (by omega) (ev_ite (fun e => ev_end ?_) (fun e => ih ?_))))))
    · refine (h0 ?_).symm
      intro hn
      have := nodup_rd l hn j i (by omega) (by omega) e
      omega
    · intro x hx
      rw [take_next l j (by omega), List.mem_append, List.mem_singleton] at hx
      rcases hx with hx | hx
      · exact h x hx
      · rw [hx]; exact e
theorem once_l (l : List Int) (n : Nat) (hl : l.length = n) (hn : n ≤ 1000) : ∀ i, i ≤ n → (∀ x ∈ l.take i, 0 ≤ x ∧ x < (n : Int)) → (l.take i).Nodup →
    Ev (fun k => salchowref36_Once.l0 k l n (i : Int)) (decide (Good n l)) := by
  refine down n ?_ ?_
  · intro h hd
    rw [← hl, List.take_length] at h hd
    refine ev_round ?_
    simp only [salchowref36_Once.l0]
    refine ev_neg (by omega) (ev_end (decide_eq_true ?_).symm)
    exact ⟨hl, by rw [← hl]; exact h, hd⟩
  · intro i hi ih h hd
    refine ev_round ?_
    simp only [salchowref36_Once.l0]
    have hm := rd_mem l i (by omega)
    have no : (¬ Good n l) → Ev (fun k => salchowref36_Once.j1 k l n (i : Int) true) (decide (Good n l)) := fun h => by
      refine ev_round ?_
      simp only [salchowref36_Once.j1]
      exact ev_pos (by simp) (ev_end (decide_eq_false h).symm)
    refine ev_pos (by omega) (ev_pos (by omega) (ev_pos (by omega) (ev_ite (fun e => no ?_) (fun e => ?_))))
    · intro g; have := g.2.1 _ hm; omega
    · by_cases e2 : rd l (i : Int) ≥ (n : Int)
      · rw [decide_eq_true e2]
        exact no (fun g => by have := g.2.1 _ hm; omega)
      · rw [decide_eq_false e2]
        refine ev_round ?_
        simp only [salchowref36_Once.j1]
        refine ev_neg (by simp) (once_in l n hl hn i hi hd _ (fun hd2 => ih ?_ hd2) (fun hd2 => decide_eq_false (fun g => hd2 g.2.2)) 0 (by omega) (fun x hx => by simp at hx))
        intro x hx
        rw [take_next l i (by omega), List.mem_append, List.mem_singleton] at hx
        rcases hx with hx | hx
        · exact h x hx
        · rw [hx]; omega
theorem once_ev (l : List Int) (n : Nat) (hn : n ≤ 1000) : Ev (fun k => salchowref36_Once.f k l n) (decide (Good n l)) := by
  simp only [salchowref36_Once.f]
  refine ev_ite (fun h => once_l l n (by omega) hn 0 (by omega) (fun x hx => by simp at hx) (by simp)) (fun h => ev_end ?_)
  symm; rw [decide_eq_false_iff_not]
  intro g; have := g.1; omega

theorem ordered_l (os : List (List Int)) (hs : os.length ≤ 1000) (hw : ∀ row ∈ os, row.length ≤ 1000) (h0 : 0 < os.length) (h1 : 0 < (rd_L1 os 0).length) : ∀ j, j ≤ os.length → (∀ row ∈ os.take j, Good (rd_L1 os 0).length row) →
    Ev (fun k => salchowref36_Ordered.l0 k os (j : Int)) (decide (Ord os)) := by
  have hm0 := hw _ (rdL_mem os 0 h0)
  have hm0' : (rd_L1 os 0).length ≤ 1000 := hm0
  refine down os.length ?_ ?_
  · intro h
    rw [List.take_length] at h
    refine ev_round ?_
    simp only [salchowref36_Ordered.l0]
    exact ev_neg (by omega) (ev_end (decide_eq_true (show Ord os from ⟨h0, h1, h⟩)).symm)
  · intro j hj ih h
    refine ev_round ?_
    simp only [salchowref36_Ordered.l0]
    rw [wid (by omega) (by omega)]
    have hm := rdL_mem os j hj
    refine ev_pos (by omega) (ev_pos (by omega) (ev_pos (by omega) (ev_call (once_ev _ _ hm0') ?_)))
    by_cases hg : Good (rd_L1 os 0).length (rd_L1 os (j : Int))
    · refine ev_pos (by simpa using hg) (ih ?_)
      intro row hr
      rw [List.take_succ_eq_append_getElem hj, List.mem_append, List.mem_singleton] at hr
      rcases hr with hr | hr
      · exact h row hr
      · rw [hr, ← rdL_nat os j hj]; exact hg
    · exact ev_neg (by simpa using hg) (ev_end (decide_eq_false (fun o => hg (o.2.2 _ hm))).symm)
theorem ordered_ev (os : List (List Int)) (hs : os.length ≤ 1000) (hw : ∀ row ∈ os, row.length ≤ 1000) : Ev (fun k => salchowref36_Ordered.f k os) (decide (Ord os)) := by
  have no : ¬ Ord os → Ev (fun k => salchowref36_Ordered.j0 k os true) (decide (Ord os)) := fun h => by
    refine ev_round ?_
    simp only [salchowref36_Ordered.j0]
    exact ev_pos (by simp) (ev_end (decide_eq_false h).symm)
  simp only [salchowref36_Ordered.f]
  by_cases h0 : 0 < os.length
  · refine ev_neg (by omega) (ev_pos (by omega) ?_)
    by_cases h1 : 0 < (rd_L1 os 0).length
    · have e : (((rd_L1 os 0).length : Int) == 0) = false := by rw [beq_eq_false_iff_ne]; omega
      rw [e]
      refine ev_round ?_
      simp only [salchowref36_Ordered.j0]
      exact ev_neg (by simp) (ordered_l os hs hw h0 h1 0 (by omega) (fun row hr => by simp at hr))
    · have e : (((rd_L1 os 0).length : Int) == 0) = true := by rw [beq_iff_eq]; omega
      rw [e]
      exact no (fun o => h1 o.2.1)
  · exact ev_pos (by omega) (no (fun o => h0 o.1))

theorem refpos_l2 (os : List (List Int)) (x3 : List Int) (m : Nat) (i : Nat) (hi : i < os.length) (hs : os.length ≤ 1000) (hl : (rd_L1 os (i : Int)).length ≤ 1000) (s : Int) (r : List Int)
    (ih : Ev (fun k => salchowref36_Positions.l1 k os x3 m (addTo (rd_L1 os (i : Int)) m (rd_L1 os (i : Int)).length s) ((i + 1 : Nat) : Int)) r) :
    ∀ j, j ≤ (rd_L1 os (i : Int)).length → Ev (fun k => salchowref36_Positions.l2 k os x3 m (addTo (rd_L1 os (i : Int)) m j s) (i : Int) (j : Int)) r := by
  refine down _ ?_ ?_
  · refine ev_round ?_
    simp only [salchowref36_Positions.l2]
    rw [wid (x := (i : Int) + 1) (by omega) (by omega)]
    exact ev_pos (by omega) (ev_pos (by omega) (ev_neg (by omega) ih))
  · intro j hj ih2
    refine ev_round ?_
    simp only [salchowref36_Positions.l2]
    rw [wid (x := (j : Int) + 1) (by omega) (by omega)]
    have e : addTo (rd_L1 os (i : Int)) m (j + 1) s = if rd (rd_L1 os (i : Int)) (j : Int) = m then wrap64 (addTo (rd_L1 os (i : Int)) m j s + (j : Int)) else addTo (rd_L1 os (i : Int)) m j s := rfl
    rw [e] at ih2
    refine ev_pos (by omega) (ev_pos (by omega) (ev_pos (by omega) (ev_pos (by omega) (ev_ite (fun h => ?_) (fun h => ?_)))))
    · rw [if_pos h] at ih2; exact ih2
    · rw [if_neg h] at ih2; exact ih2
theorem refpos_l1 (os : List (List Int)) (hs : os.length ≤ 1000) (hw : ∀ row ∈ os, row.length ≤ 1000) (x3 : List Int) (hx : x3.length ≤ 1000) (m : Nat) (hm : m ≤ 1000) (r : List Int)
    (ih : Ev (fun k => salchowref36_Positions.l0 k os (x3 ++ [tot os m os.length]) ((m + 1 : Nat) : Int)) r) :
    ∀ i, i ≤ os.length → Ev (fun k => salchowref36_Positions.l1 k os x3 m (tot os m i) (i : Int)) r := by
  refine down _ ?_ ?_
  · refine ev_round ?_
    simp only [salchowref36_Positions.l1]
    rw [wid (x := (m : Int) + 1) (by omega) (by omega)]
    exact ev_neg (by omega) (ev_pos (by omega) ih)
  · intro i hi ih2
    refine ev_round ?_
    simp only [salchowref36_Positions.l1]
    exact ev_pos (by omega) (refpos_l2 os x3 m i hi hs (hw _ (rdL_mem os i hi)) _ _ ih2 0 (by omega))
theorem refpos_ev (os : List (List Int)) (hs : os.length ≤ 1000) (hw : ∀ row ∈ os, row.length ≤ 1000) (h0 : 0 < os.length) :
    Ev (fun k => salchowref36_Positions.f k os) (sums (rd_L1 os 0).length (fun m => tot os m os.length)) := by
  have hm0 := hw _ (rdL_mem os 0 h0)
  have hm0' : (rd_L1 os 0).length ≤ 1000 := hm0
  have key : ∀ m, m ≤ (rd_L1 os 0).length → Ev (fun k => salchowref36_Positions.l0 k os (sums m (fun m => tot os m os.length)) (m : Int)) (sums (rd_L1 os 0).length (fun m => tot os m os.length)) := by
    refine down _ ?_ ?_
    · refine ev_round ?_
      simp only [salchowref36_Positions.l0]
      exact ev_pos (by omega) (ev_neg (by omega) (ev_end rfl))
    · intro m hm ih
      refine ev_round ?_
      simp only [salchowref36_Positions.l0]
      refine ev_pos (by omega) (ev_pos (by omega) (refpos_l1 os hs hw _ (by unfold sums; rw [upto_len]; omega) m (by omega) _ ?_ 0 (by omega)))
      unfold sums at ih ⊢
      rw [upto_succ] at ih
      exact ih
  simp only [salchowref36_Positions.f]
  exact key 0 (by omega)

theorem reflat_l2 (s : List (List Int)) (hs : s.length ≤ 1000) (hw : ∀ row ∈ s, row.length = s.length) (g : Nat) (hg : g < s.length) (r : Bool)
    (h1 : Good s.length (col s g) → Ev (fun k => salchowref36_Latin.l1 k s s.length ((g + 1 : Nat) : Int)) r) (h0 : ¬ Good s.length (col s g) → r = false) :
    ∀ j, j ≤ s.length → Ev (fun k => salchowref36_Latin.l2 k s s.length g ((col s g).take j) (j : Int)) r := by
  refine down s.length ?_ ?_
  · refine ev_round ?_
    simp only [salchowref36_Latin.l2]
    rw [← col_len s g, List.take_length, col_len s g]
    refine ev_neg (by omega) (ev_call (once_ev (col s g) s.length (by omega)) ?_)
    rw [wid (by omega) (by omega)]
    by_cases h : Good s.length (col s g)
    · exact ev_pos (by simpa using h) (h1 h)
    · exact ev_neg (by simpa using h) (ev_end (h0 h).symm)
  · intro j hj ih
    refine ev_round ?_
    simp only [salchowref36_Latin.l2]
    have e := hw _ (rdL_mem s j hj)
    refine ev_pos (by omega) (ev_pos (by omega) (ev_pos (by omega) (ev_pos (by omega) (ev_pos (by omega) (ev_pos (by rw [List.length_take, col_len]; omega) ?_)))))
    rw [wid (by omega) (by omega)]
    rw [col_next s g j hj] at ih
    exact ih
theorem reflat_l1 (s : List (List Int)) (hs : s.length ≤ 1000) (hw : ∀ row ∈ s, Good s.length row) : ∀ g, g ≤ s.length → (∀ i, i < g → Good s.length (col s i)) →
    Ev (fun k => salchowref36_Latin.l1 k s s.length (g : Int)) (decide (Lat s)) := by
  refine down s.length ?_ ?_
  · intro hc
    refine ev_round ?_
    simp only [salchowref36_Latin.l1]
    refine ev_neg (by omega) (ev_end ?_)
    refine bdec ⟨fun h => ?_, fun h => ?_⟩
    · have h := of_decide_eq_true h; exact ⟨hw, hc, by omega⟩
    · have := h.2.2; exact decide_eq_true (by omega)
  · intro g hg ih hc
    refine ev_round ?_
    simp only [salchowref36_Latin.l1]
    refine ev_pos (by omega) (reflat_l2 s hs (fun row hr => (hw row hr).1) g hg _ (fun h => ih ?_) (fun h => ?_) 0 (by omega))
    · intro i hi
      by_cases e : i = g
      · subst e; exact h
      · exact hc i (by omega)
    · rw [decide_eq_false_iff_not]
      exact fun l => h (l.2.1 g hg)
theorem reflat_l0 (s : List (List Int)) (hs : s.length ≤ 1000) : ∀ j, j ≤ s.length → (∀ row ∈ s.take j, Good s.length row) →
    Ev (fun k => salchowref36_Latin.l0 k s s.length (j : Int)) (decide (Lat s)) := by
  refine down s.length ?_ ?_
  · intro hc
    rw [List.take_length] at hc
    refine ev_round ?_
    simp only [salchowref36_Latin.l0]
    exact ev_neg (by omega) (reflat_l1 s hs hc 0 (by omega) (fun i hi => absurd hi (by omega)))
  · intro j hj ih hc
    refine ev_round ?_
    simp only [salchowref36_Latin.l0]
    have hm := rdL_mem s j hj
    refine ev_pos (by omega) (ev_pos (by omega) (ev_pos (by omega) (ev_call (once_ev _ s.length (by omega)) ?_)))
    rw [wid (by omega) (by omega)]
    by_cases h : Good s.length (rd_L1 s (j : Int))
    · refine ev_pos (by simpa using h) (ih ?_)
      intro row hr
      rw [List.take_succ_eq_append_getElem hj, List.mem_append, List.mem_singleton] at hr
      rcases hr with hr | hr
      · exact hc row hr
      · rw [hr, ← rdL_nat s j hj]; exact h
    · refine ev_neg (by simpa using h) (ev_end ?_)
      symm
      rw [decide_eq_false_iff_not]
      exact fun l => h (l.1 _ hm)
theorem reflat_ev (s : List (List Int)) (hs : s.length ≤ 1000) : Ev (fun k => salchowref36_Latin.f k s) (decide (Lat s)) := by
  simp only [salchowref36_Latin.f]
  exact reflat_l0 s hs 0 (by omega) (fun row hr => by simp at hr)
end Go.Proofs.Ytaodpgblleiiaaa.E
