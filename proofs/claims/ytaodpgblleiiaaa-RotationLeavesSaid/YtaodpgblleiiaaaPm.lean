/- The plain side of permutations and Latin squares: what 'permutation' and 'Latin' of the program, 'Once' and 'Latin' of the reference come to. -/
import Derived.Test.YtaodpgblleiiaaaSq
import Derived.Test.YtaodpgblleiiaaaPx2
namespace Go.Proofs.Ytaodpgblleiiaaa.E
open Go.RowKit Go.Proofs.YtaodpgblleiiaaaW.PrintWords Go.Proofs.YtaodpgblleiiaaaW.PrintLast Go.Proofs.Ytaodpgblleiiaaa.P
set_option linter.unusedVariables false

/-- The numbers 0 to n - 1, each once. -/
def Good (n : Nat) (l : List Int) : Prop := l.length = n ∧ (∀ x ∈ l, 0 ≤ x ∧ x < (n : Int)) ∧ l.Nodup
instance (n : Nat) (l : List Int) : Decidable (Good n l) := by unfold Good; infer_instance

theorem take_next (l : List Int) (j : Nat) (h : j < l.length) : l.take (j + 1) = l.take j ++ [rd l (j : Int)] := by
  rw [List.take_succ_eq_append_getElem h, rd_nat l j h]
theorem rd_mem (l : List Int) (j : Nat) (h : j < l.length) : rd l (j : Int) ∈ l := by rw [rd_nat l j h]; exact List.getElem_mem h
theorem not_nodup (l : List Int) (j : Nat) (h : j < l.length) (hm : rd l (j : Int) ∈ l.take j) : ¬ l.Nodup := by
  intro hd
  have e : l = l.take (j + 1) ++ l.drop (j + 1) := (List.take_append_drop _ _).symm
  rw [take_next l j h] at e
  rw [e] at hd
  have h1 := (List.nodup_append.mp hd).1
  have h2 := (List.nodup_append.mp h1).2.2
  exact h2 _ hm _ (List.mem_singleton.mpr rfl) rfl

theorem perm_l (n : Nat) (l : List Int) (hn : n ≤ 1000) (hl : l.length ≤ 1000) : ∀ j, j ≤ l.length → ∀ seen : List Bool, seen.length = n →
    (∀ v : Nat, v < n → seen.getD v false = decide ((v : Int) ∈ l.take j)) → (∀ x ∈ l.take j, 0 ≤ x ∧ x < (n : Int)) → (l.take j).Nodup →
    Ev (fun k => rotation_permutation.l0 k l n seen l l.length (j : Int)) (decide (Good n l)) := by
  refine down l.length ?_ ?_
  · intro seen hs hv hr hd
    rw [List.take_length] at hr hd
    refine ev_round ?_
    simp only [rotation_permutation.l0]
    refine ev_neg (by omega) (ev_end ?_)
    refine bdec ⟨fun h => ?_, fun h => ?_⟩
    · have h := eq_of_beq h; exact ⟨by omega, hr, hd⟩
    · rw [beq_iff_eq]; have := h.1; omega
  · intro j hj ih seen hs hv hr hd
    refine ev_round ?_
    simp only [rotation_permutation.l0]
    have hm := rd_mem l j hj
    have hx : ∀ P : Prop, (Good n l → P) → ¬ P → false = decide (Good n l) := fun P h1 h2 => by
      symm; rw [decide_eq_false_iff_not]; exact fun h => h2 (h1 h)
    refine ev_pos (by omega) (ev_pos (by omega) (ev_pos (by omega) (ev_ite (fun h => ev_end (hx _ (fun g => g.2.1 _ hm) (by omega))) (fun h0 => ev_ite (fun h => ev_end (hx _ (fun g => g.2.1 _ hm) (by omega))) (fun h1 => ev_pos (by omega) (ev_pos (by omega) ?_))))))
    obtain ⟨v, hvx⟩ : ∃ v : Nat, rd l (j : Int) = v := ⟨(rd l (j : Int)).toNat, by omega⟩
    have hvn : v < n := by omega
    have hseen := hv v hvn
    rw [hvx]
    unfold rdOf
    rw [Int.toNat_natCast, hseen]
    refine ev_ite (fun h => ?_) (fun h => ?_)
    · refine ev_end (hx _ (fun g => g.2.2) (not_nodup l j hj ?_))
      rw [hvx]; simpa using h
    · rw [wid (by omega) (by omega)]
      have hno : ¬ ((v : Int) ∈ l.take j) := by simpa using h
      refine ih (seen.set v true) (by simpa using hs) ?_ ?_ ?_
      · intro u hu
        rw [take_next l j hj, hvx]
        by_cases e : u = v
        · subst e
          simp [List.getD_eq_getElem?_getD, hs, hu]
        · have e1 : (seen.set v true).getD u false = seen.getD u false := by
            simp [List.getD_eq_getElem?_getD, Ne.symm e]
          rw [e1, hv u hu]
          have e2 : ¬ ((u : Int) = (v : Int)) := by omega
          simp [e2]
      · intro x hxm
        rw [take_next l j hj, List.mem_append] at hxm
        rcases hxm with hxm | hxm
        · exact hr x hxm
        · rw [List.mem_singleton.mp hxm]; omega
      · rw [take_next l j hj, hvx]
        refine List.nodup_append.mpr ⟨hd, by simp, ?_⟩
        intro a ha b hb e
        rw [List.mem_singleton.mp hb] at e
        exact hno (e ▸ ha)
theorem perm_ev (n : Nat) (l : List Int) (hn : n ≤ 1000) (hl : l.length ≤ 1000) : Ev (fun k => rotation_permutation.f k l n) (decide (Good n l)) := by
  simp only [rotation_permutation.f]
  refine ev_pos (by omega) (ev_pos (by omega) ?_)
  rw [Int.toNat_natCast]
  refine perm_l n l hn hl 0 (by omega) _ (by simp) (fun v hv => ?_) (fun x hx => by simp at hx) (by simp)
  simp [List.getD_eq_getElem?_getD, hv]

/-- Column g of a square. -/
def col (s : List (List Int)) (g : Nat) : List Int := s.map fun row => rd row (g : Int)
def Lat (s : List (List Int)) : Prop := (∀ row ∈ s, Good s.length row) ∧ (∀ g, g < s.length → Good s.length (col s g)) ∧ 0 < s.length
theorem lat_dec (s : List (List Int)) : Lat s ↔ (∀ row ∈ s, Good s.length row) ∧ (∀ g ∈ List.range s.length, Good s.length (col s g)) ∧ 0 < s.length := by
  unfold Lat; simp only [List.mem_range]
instance (s : List (List Int)) : Decidable (Lat s) := decidable_of_iff _ (lat_dec s).symm

theorem rdL_nat (s : List (List Int)) (j : Nat) (h : j < s.length) : rd_L1 s (j : Int) = s[j] := by
  unfold rd_L1; rw [Int.toNat_natCast, List.getD_eq_getElem?_getD, List.getElem?_eq_getElem h]; rfl
theorem rdL_mem (s : List (List Int)) (j : Nat) (h : j < s.length) : rd_L1 s (j : Int) ∈ s := by rw [rdL_nat s j h]; exact List.getElem_mem h
theorem col_len (s : List (List Int)) (g : Nat) : (col s g).length = s.length := by simp [col]
theorem col_next (s : List (List Int)) (g j : Nat) (h : j < s.length) : (col s g).take (j + 1) = (col s g).take j ++ [rd (rd_L1 s (j : Int)) (g : Int)] := by
  rw [List.take_succ_eq_append_getElem (by rw [col_len]; exact h)]
  congr 2
  simp [col, rdL_nat s j h]

theorem latin_l2 (s : List (List Int)) (hs : s.length ≤ 1000) (hw : ∀ row ∈ s, row.length = s.length) (g : Nat) (hg : g < s.length) (r : Bool)
    (h1 : Good s.length (col s g) → Ev (fun k => rotation_Latin.l1 k s s.length s.length ((g + 1 : Nat) : Int)) r) (h0 : ¬ Good s.length (col s g) → r = false) :
    ∀ j, j ≤ s.length → Ev (fun k => rotation_Latin.l2 k s s.length g ((col s g).take j) s.length g s s.length (j : Int)) r := by
  refine down s.length ?_ ?_
  · refine ev_round ?_
    simp only [rotation_Latin.l2]
    rw [← col_len s g, List.take_length, col_len s g]
    refine ev_neg (by omega) (ev_call (perm_ev s.length (col s g) (by omega) (by rw [col_len]; omega)) ?_)
    rw [wid (by omega) (by omega)]
    by_cases h : Good s.length (col s g)
    · exact ev_pos (by simpa using h) (h1 h)
    · exact ev_neg (by simpa using h) (ev_end (h0 h).symm)
  · intro j hj ih
    refine ev_round ?_
    simp only [rotation_Latin.l2]
    have e := hw _ (rdL_mem s j hj)
    refine ev_pos (by omega) (ev_pos (by omega) (ev_pos (by omega) (ev_pos (by omega) (ev_pos (by omega) (ev_pos (by rw [List.length_take, col_len]; omega) ?_)))))
    rw [wid (by omega) (by omega)]
    rw [col_next s g j hj] at ih
    exact ih
theorem latin_l1 (s : List (List Int)) (hs : s.length ≤ 1000) (hw : ∀ row ∈ s, Good s.length row) : ∀ g, g ≤ s.length → (∀ i, i < g → Good s.length (col s i)) →
    Ev (fun k => rotation_Latin.l1 k s s.length s.length (g : Int)) (decide (Lat s)) := by
  refine down s.length ?_ ?_
  · intro hc
    refine ev_round ?_
    simp only [rotation_Latin.l1]
    refine ev_neg (by omega) (ev_end ?_)
    refine bdec ⟨fun h => ?_, fun h => ?_⟩
    · have h := of_decide_eq_true h; exact ⟨hw, hc, by omega⟩
    · have := h.2.2; exact decide_eq_true (by omega)
  · intro g hg ih hc
    refine ev_round ?_
    simp only [rotation_Latin.l1]
    refine ev_pos (by omega) (latin_l2 s hs (fun row hr => (hw row hr).1) g hg _ (fun h => ih ?_) (fun h => ?_) 0 (by omega))
    · intro i hi
      by_cases e : i = g
      · subst e; exact h
      · exact hc i (by omega)
    · rw [decide_eq_false_iff_not]
      exact fun l => h (l.2.1 g hg)
theorem latin_l0 (s : List (List Int)) (hs : s.length ≤ 1000) (hw : ∀ row ∈ s, row.length ≤ 1000) : ∀ j, j ≤ s.length → (∀ row ∈ s.take j, Good s.length row) →
    Ev (fun k => rotation_Latin.l0 k s s.length s s.length (j : Int)) (decide (Lat s)) := by
  refine down s.length ?_ ?_
  · intro hc
    rw [List.take_length] at hc
    refine ev_round ?_
    simp only [rotation_Latin.l0]
    exact ev_neg (by omega) (latin_l1 s hs hc 0 (by omega) (fun i hi => absurd hi (by omega)))
  · intro j hj ih hc
    refine ev_round ?_
    simp only [rotation_Latin.l0]
    have hm := rdL_mem s j hj
    refine ev_pos (by omega) (ev_pos (by omega) (ev_pos (by omega) (ev_call (perm_ev s.length _ (by omega) (hw _ hm)) ?_)))
    rw [wid (by omega) (by omega)]
    by_cases h : Good s.length (rd_L1 s (j : Int))
    · refine ev_pos (by simpa using h) (ih ?_)
      intro row hr
      rw [List.take_succ_eq_append_getElem hj, List.mem_append, List.mem_singleton] at hr
      rcases hr with hr | hr
      · exact hc row hr
      · rw [hr, ← rdL_nat s j hj]; exact h
    · refine ev_neg (by simpa using h) (ev_end ?_)
      symm
      rw [decide_eq_false_iff_not]
      exact fun l => h (l.1 _ hm)
theorem latin_ev (s : List (List Int)) (hs : s.length ≤ 1000) (hw : ∀ row ∈ s, row.length ≤ 1000) : Ev (fun k => rotation_Latin.f k s) (decide (Lat s)) := by
  simp only [rotation_Latin.f]
  exact latin_l0 s hs hw 0 (by omega) (fun row hr => by simp at hr)
end Go.Proofs.Ytaodpgblleiiaaa.E
