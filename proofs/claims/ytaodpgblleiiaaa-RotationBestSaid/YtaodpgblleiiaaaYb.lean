/- Cyclic squares, Latin squares, timetables: what the small functions compute. -/
import Derived.Test.YtaodpgblleiiaaaE
import Derived.Test.YtaodpgblleiiaaaPx4
import Derived.Test.YtaodpgblleiiaaaPx6
import Derived.Test.YtaodpgblleiiaaaPx9
import Derived.Test.YtaodpgblleiiaaaPx14
import Derived.Test.YtaodpgblleiiaaaPx15
import Derived.Test.YtaodpgblleiiaaaPx16
import Derived.Test.YtaodpgblleiiaaaPx17
import Derived.Test.YtaodpgblleiiaaaPx18
import Derived.Test.YtaodpgblleiiaaaPx22
import Derived.Test.YtaodpgblleiiaaaPx23
import Derived.Test.YtaodpgblleiiaaaPx27
section
namespace Go.Proofs.Ytaodpgblleiiaaa.E
open Go.RowKit Go.Proofs.YtaodpgblleiiaaaW.PrintWords Go.Proofs.YtaodpgblleiiaaaW.PrintLast Go.Proofs.Ytaodpgblleiiaaa.P
set_option linter.unusedVariables false
theorem size_ev (n : Int) : rotation_size.f n = some (decide (1 ≤ n ∧ n ≤ 64)) := by
  unfold rotation_size.f
  by_cases h : n ≥ 1
  · rw [if_pos h]; congr 1; simp; omega
  · rw [if_neg h]; congr 1; simp; omega
theorem same_l (a : List Int) (h : a.length < 4611686018427387904) : ∀ j, j ≤ a.length → Ev (fun k => salchowref36_Same.l0 k a a (j : Int)) true := by
  refine down a.length ?_ ?_
  · refine ev_round ?_
    simp only [salchowref36_Same.l0]
    exact ev_neg (by omega) (ev_end rfl)
  · intro j hj ih
    refine ev_round ?_
    simp only [salchowref36_Same.l0]
    refine ev_pos (by omega) (ev_pos (by omega) (ev_pos (by omega) (ev_pos trivial ?_)))
    rw [wid (by omega) (by omega)]
    exact ih
theorem same_ev (a : List Int) (h : a.length < 4611686018427387904) : Ev (fun k => salchowref36_Same.f k a a) true := by
  simp only [salchowref36_Same.f]
  exact ev_pos trivial (same_l a h 0 (by omega))
def upto {α : Type} (F : Nat → α) (j : Nat) : List α := (List.range j).map F
theorem upto_succ {α : Type} (F : Nat → α) (j : Nat) : upto F (j + 1) = upto F j ++ [F j] := by unfold upto; rw [List.range_succ, List.map_append]; rfl
theorem upto_len {α : Type} (F : Nat → α) (j : Nat) : (upto F j).length = j := by simp [upto]
theorem upto_get {α : Type} (F : Nat → α) (j i : Nat) (h : i < (upto F j).length) : (upto F j)[i] = F i := by simp [upto]
theorem tmod_nat (a b : Nat) : Int.tmod (a : Int) (b : Int) = ((a % b : Nat) : Int) := by rw [Int.tmod_eq_emod_of_nonneg (by omega)]; omega
def cycRow (n t : Nat) : List Int := upto (fun g => (((g + t) % n : Nat) : Int)) n
def cyc (n : Nat) : List (List Int) := upto (cycRow n) n
theorem cyclic_l1 (n : Nat) (hn : 1 ≤ n ∧ n ≤ 64) (t : Nat) (ht : t < n) (x4 : List (List Int)) (hx : x4.length = t) (r : List (List Int) × Int)
    (ih : Ev (fun k => rotation_Cyclic.l0 k n (x4 ++ [cycRow n t]) n ((t + 1 : Nat) : Int)) r) :
    ∀ j, j ≤ n → Ev (fun k => rotation_Cyclic.l1 k n x4 t (upto (fun g => (((g + t) % n : Nat) : Int)) j) n t n (j : Int)) r := by
  refine down n ?_ ?_
  · refine ev_round ?_
    simp only [rotation_Cyclic.l1]
    refine ev_neg (by omega) (ev_pos (by omega) ?_)
    rw [wid (by omega) (by omega)]
    exact ih
  · intro j hj ih2
    refine ev_round ?_
    simp only [rotation_Cyclic.l1]
    refine ev_pos (by omega) (ev_neg (by omega) (ev_pos (by rw [upto_len]; omega) ?_))
    rw [wid (by omega) (by omega), wid (by omega) (by omega)]
    rw [upto_succ] at ih2
    have e : Int.tmod ((j : Int) + (t : Int)) (n : Int) = (((j + t) % n : Nat) : Int) := by rw [← tmod_nat]; rfl
    rw [e]
    exact ih2
theorem cyclic_l0 (n : Nat) (hn : 1 ≤ n ∧ n ≤ 64) : ∀ t, t ≤ n → Ev (fun k => rotation_Cyclic.l0 k n (upto (cycRow n) t) n (t : Int)) (cyc n, 0) := by
  refine down n ?_ ?_
  · refine ev_round ?_
    simp only [rotation_Cyclic.l0]
    exact ev_neg (by omega) (ev_end rfl)
  · intro t ht ih
    refine ev_round ?_
    simp only [rotation_Cyclic.l0]
    refine ev_pos (by omega) ?_
    rw [upto_succ] at ih
    exact cyclic_l1 n hn t ht _ (upto_len _ _) _ ih 0 (by omega)
theorem cyclic_ev (n : Nat) (hn : 1 ≤ n ∧ n ≤ 64) : Ev (fun k => rotation_Cyclic.f k n) (cyc n, 0) := by
  simp only [rotation_Cyclic.f]
  refine ev_const (size_ev n) (ev_pos (by simp; omega) ?_)
  exact cyclic_l0 n hn 0 (by omega)
theorem cyclic_no (n : Int) (hn : ¬ (1 ≤ n ∧ n ≤ 64)) : Ev (fun k => rotation_Cyclic.f k n) ([], 1) := by
  simp only [rotation_Cyclic.f]
  exact ev_const (size_ev n) (ev_neg (by simp; omega) (ev_end rfl))
theorem refcyc_l1 (n : Nat) (hn : 1 ≤ n ∧ n ≤ 64) (t : Nat) (ht : t < n) (x4 : List (List Int)) (hx : x4.length = t) (r : List (List Int))
    (ih : Ev (fun k => salchowref36_Cyclic.l0 k n (x4 ++ [cycRow n t]) ((t + 1 : Nat) : Int)) r) :
    ∀ j, j ≤ n → Ev (fun k => salchowref36_Cyclic.l1 k n x4 t (upto (fun g => (((g + t) % n : Nat) : Int)) j) (j : Int)) r := by
  refine down n ?_ ?_
  · refine ev_round ?_
    simp only [salchowref36_Cyclic.l1]
    refine ev_neg (by omega) (ev_pos (by omega) ?_)
    rw [wid (by omega) (by omega)]
    exact ih
  · intro j hj ih2
    refine ev_round ?_
    simp only [salchowref36_Cyclic.l1]
    refine ev_pos (by omega) (ev_neg (by omega) (ev_pos (by rw [upto_len]; omega) ?_))
    rw [wid (by omega) (by omega), wid (by omega) (by omega)]
    rw [upto_succ] at ih2
    have e : Int.tmod ((j : Int) + (t : Int)) (n : Int) = (((j + t) % n : Nat) : Int) := by rw [← tmod_nat]; rfl
    rw [e]
    exact ih2
theorem refcyc_l0 (n : Nat) (hn : 1 ≤ n ∧ n ≤ 64) : ∀ t, t ≤ n → Ev (fun k => salchowref36_Cyclic.l0 k n (upto (cycRow n) t) (t : Int)) (cyc n) := by
  refine down n ?_ ?_
  · refine ev_round ?_
    simp only [salchowref36_Cyclic.l0]
    exact ev_neg (by omega) (ev_end rfl)
  · intro t ht ih
    refine ev_round ?_
    simp only [salchowref36_Cyclic.l0]
    refine ev_pos (by omega) ?_
    rw [upto_succ] at ih
    exact refcyc_l1 n hn t ht _ (upto_len _ _) _ ih 0 (by omega)
theorem refcyc_ev (n : Nat) (hn : 1 ≤ n ∧ n ≤ 64) : Ev (fun k => salchowref36_Cyclic.f k n) (cyc n) := by
  simp only [salchowref36_Cyclic.f]
  exact refcyc_l0 n hn 0 (by omega)
theorem awake_ev : Ev (fun k => salchowlaw36_awake.f k) true := Ev.of salchowlaw36_awake.mono (k := 40) (by decide +kernel)
end Go.Proofs.Ytaodpgblleiiaaa.E
end
section
namespace Go.Proofs.Ytaodpgblleiiaaa.E
open Go.RowKit Go.Proofs.YtaodpgblleiiaaaW.PrintWords Go.Proofs.YtaodpgblleiiaaaW.PrintLast Go.Proofs.Ytaodpgblleiiaaa.P
set_option linter.unusedVariables false
def Good (n : Nat) (l : List Int) : Prop := l.length = n ∧ (∀ x ∈ l, 0 ≤ x ∧ x < (n : Int)) ∧ l.Nodup
instance (n : Nat) (l : List Int) : Decidable (Good n l) := by unfold Good; infer_instance
theorem take_next (l : List Int) (j : Nat) (h : j < l.length) : l.take (j + 1) = l.take j ++ [rd l (j : Int)] := by
  rw [List.take_succ_eq_append_getElem h, rd_nat l j h]
theorem rd_mem (l : List Int) (j : Nat) (h : j < l.length) : rd l (j : Int) ∈ l := by rw [rd_nat l j h]; exact List.getElem_mem h
theorem not_nodup (l : List Int) (j : Nat) (h : j < l.length) (hm : rd l (j : Int) ∈ l.take j) : ¬ l.Nodup := by
  intro hd
  have e : l = l.take (j + 1) ++ l.drop (j + 1) := (List.take_append_drop _ _).symm
  rw [take_next l j h] at e
  rw [e] at hd
  have h1 := (List.nodup_append.mp hd).1
  have h2 := (List.nodup_append.mp h1).2.2
  exact h2 _ hm _ (List.mem_singleton.mpr rfl) rfl
theorem perm_l (n : Nat) (l : List Int) (hn : n ≤ 1000) (hl : l.length ≤ 1000) : ∀ j, j ≤ l.length → ∀ seen : List Bool, seen.length = n →
    (∀ v : Nat, v < n → seen.getD v false = decide ((v : Int) ∈ l.take j)) → (∀ x ∈ l.take j, 0 ≤ x ∧ x < (n : Int)) → (l.take j).Nodup →
    Ev (fun k => rotation_permutation.l0 k l n seen l l.length (j : Int)) (decide (Good n l)) := by
  refine down l.length ?_ ?_
  · intro seen hs hv hr hd
    rw [List.take_length] at hr hd
    refine ev_round ?_
    simp only [rotation_permutation.l0]
    refine ev_neg (by omega) (ev_end ?_)
    refine bdec ⟨fun h => ?_, fun h => ?_⟩
    · have h := eq_of_beq h; exact ⟨by omega, hr, hd⟩
    · rw [beq_iff_eq]; have := h.1; omega
  · intro j hj ih seen hs hv hr hd
    refine ev_round ?_
    simp only [rotation_permutation.l0]
    have hm := rd_mem l j hj
    have hx : ∀ P : Prop, (Good n l → P) → ¬ P → false = decide (Good n l) := fun P h1 h2 => by
      symm; rw [decide_eq_false_iff_not]; exact fun h => h2 (h1 h)
    refine ev_pos (by omega) (ev_pos (by omega) (ev_pos (by omega) (ev_ite (fun h => ev_end (hx _ (fun g => g.2.1 _ hm) (by omega))) (fun h0 => ev_ite (fun h => ev_end (hx _ (fun g => g.2.1 _ hm) (by omega))) (fun h1 => ev_pos (by omega) (ev_pos (by omega) ?_))))))
    obtain ⟨v, hvx⟩ : ∃ v : Nat, rd l (j : Int) = v := ⟨(rd l (j : Int)).toNat, by omega⟩
    have hvn : v < n := by omega
    have hseen := hv v hvn
    rw [hvx]
    unfold rdOf
    rw [Int.toNat_natCast, hseen]
    refine ev_ite (fun h => ?_) (fun h => ?_)
    · refine ev_end (hx _ (fun g => g.2.2) (not_nodup l j hj ?_))
      rw [hvx]; simpa using h
    · rw [wid (by omega) (by omega)]
      have hno : ¬ ((v : Int) ∈ l.take j) := by simpa using h
      refine ih (seen.set v true) (by simpa using hs) ?_ ?_ ?_
      · intro u hu
        rw [take_next l j hj, hvx]
        by_cases e : u = v
        · subst e
          simp [List.getD_eq_getElem?_getD, hs, hu]
        · have e1 : (seen.set v true).getD u false = seen.getD u false := by
            simp [List.getD_eq_getElem?_getD, Ne.symm e]
          rw [e1, hv u hu]
          have e2 : ¬ ((u : Int) = (v : Int)) := by omega
          simp [e2]
      · intro x hxm
        rw [take_next l j hj, List.mem_append] at hxm
        rcases hxm with hxm | hxm
        · exact hr x hxm
        · rw [List.mem_singleton.mp hxm]; omega
      · rw [take_next l j hj, hvx]
        refine List.nodup_append.mpr ⟨hd, by simp, ?_⟩
        intro a ha b hb e
        rw [List.mem_singleton.mp hb] at e
        exact hno (e ▸ ha)
theorem perm_ev (n : Nat) (l : List Int) (hn : n ≤ 1000) (hl : l.length ≤ 1000) : Ev (fun k => rotation_permutation.f k l n) (decide (Good n l)) := by
  simp only [rotation_permutation.f]
  refine ev_pos (by omega) (ev_pos (by omega) ?_)
  rw [Int.toNat_natCast]
  refine perm_l n l hn hl 0 (by omega) _ (by simp) (fun v hv => ?_) (fun x hx => by simp at hx) (by simp)
  simp [List.getD_eq_getElem?_getD, hv]
def col (s : List (List Int)) (g : Nat) : List Int := s.map fun row => rd row (g : Int)
def Lat (s : List (List Int)) : Prop := (∀ row ∈ s, Good s.length row) ∧ (∀ g, g < s.length → Good s.length (col s g)) ∧ 0 < s.length
theorem lat_dec (s : List (List Int)) : Lat s ↔ (∀ row ∈ s, Good s.length row) ∧ (∀ g ∈ List.range s.length, Good s.length (col s g)) ∧ 0 < s.length := by
  unfold Lat; simp only [List.mem_range]
instance (s : List (List Int)) : Decidable (Lat s) := decidable_of_iff _ (lat_dec s).symm
theorem rdL_nat (s : List (List Int)) (j : Nat) (h : j < s.length) : rd_L1 s (j : Int) = s[j] := by
  unfold rd_L1; rw [Int.toNat_natCast, List.getD_eq_getElem?_getD, List.getElem?_eq_getElem h]; rfl
theorem rdL_mem (s : List (List Int)) (j : Nat) (h : j < s.length) : rd_L1 s (j : Int) ∈ s := by rw [rdL_nat s j h]; exact List.getElem_mem h
theorem col_len (s : List (List Int)) (g : Nat) : (col s g).length = s.length := by simp [col]
theorem col_next (s : List (List Int)) (g j : Nat) (h : j < s.length) : (col s g).take (j + 1) = (col s g).take j ++ [rd (rd_L1 s (j : Int)) (g : Int)] := by
  rw [List.take_succ_eq_append_getElem (by rw [col_len]; exact h)]
  congr 2
  simp [col, rdL_nat s j h]
theorem latin_l2 (s : List (List Int)) (hs : s.length ≤ 1000) (hw : ∀ row ∈ s, row.length = s.length) (g : Nat) (hg : g < s.length) (r : Bool)
    (h1 : Good s.length (col s g) → Ev (fun k => rotation_Latin.l1 k s s.length s.length ((g + 1 : Nat) : Int)) r) (h0 : ¬ Good s.length (col s g) → r = false) :
    ∀ j, j ≤ s.length → Ev (fun k => rotation_Latin.l2 k s s.length g ((col s g).take j) s.length g s s.length (j : Int)) r := by
  refine down s.length ?_ ?_
  · refine ev_round ?_
    simp only [rotation_Latin.l2]
    rw [← col_len s g, List.take_length, col_len s g]
    refine ev_neg (by omega) (ev_call (perm_ev s.length (col s g) (by omega) (by rw [col_len]; omega)) ?_)
    rw [wid (by omega) (by omega)]
    by_cases h : Good s.length (col s g)
    · exact ev_pos (by simpa using h) (h1 h)
    · exact ev_neg (by simpa using h) (ev_end (h0 h).symm)
  · intro j hj ih
    refine ev_round ?_
    simp only [rotation_Latin.l2]
    have e := hw _ (rdL_mem s j hj)
    refine ev_pos (by omega) (ev_pos (by omega) (ev_pos (by omega) (ev_pos (by omega) (ev_pos (by omega) (ev_pos (by rw [List.length_take, col_len]; omega) ?_)))))
    rw [wid (by omega) (by omega)]
    rw [col_next s g j hj] at ih
    exact ih
theorem latin_l1 (s : List (List Int)) (hs : s.length ≤ 1000) (hw : ∀ row ∈ s, Good s.length row) : ∀ g, g ≤ s.length → (∀ i, i < g → Good s.length (col s i)) →
    Ev (fun k => rotation_Latin.l1 k s s.length s.length (g : Int)) (decide (Lat s)) := by
  refine down s.length ?_ ?_
  · intro hc
    refine ev_round ?_
    simp only [rotation_Latin.l1]
    refine ev_neg (by omega) (ev_end ?_)
    refine bdec ⟨fun h => ?_, fun h => ?_⟩
    · have h := of_decide_eq_true h; exact ⟨hw, hc, by omega⟩
    · have := h.2.2; exact decide_eq_true (by omega)
  · intro g hg ih hc
    refine ev_round ?_
    simp only [rotation_Latin.l1]
    refine ev_pos (by omega) (latin_l2 s hs (fun row hr => (hw row hr).1) g hg _ (fun h => ih ?_) (fun h => ?_) 0 (by omega))
    · intro i hi
      by_cases e : i = g
      · subst e; exact h
      · exact hc i (by omega)
    · rw [decide_eq_false_iff_not]
      exact fun l => h (l.2.1 g hg)
theorem latin_l0 (s : List (List Int)) (hs : s.length ≤ 1000) (hw : ∀ row ∈ s, row.length ≤ 1000) : ∀ j, j ≤ s.length → (∀ row ∈ s.take j, Good s.length row) →
    Ev (fun k => rotation_Latin.l0 k s s.length s s.length (j : Int)) (decide (Lat s)) := by
  refine down s.length ?_ ?_
  · intro hc
    rw [List.take_length] at hc
    refine ev_round ?_
    simp only [rotation_Latin.l0]
    exact ev_neg (by omega) (latin_l1 s hs hc 0 (by omega) (fun i hi => absurd hi (by omega)))
  · intro j hj ih hc
    refine ev_round ?_
    simp only [rotation_Latin.l0]
    have hm := rdL_mem s j hj
    refine ev_pos (by omega) (ev_pos (by omega) (ev_pos (by omega) (ev_call (perm_ev s.length _ (by omega) (hw _ hm)) ?_)))
    rw [wid (by omega) (by omega)]
    by_cases h : Good s.length (rd_L1 s (j : Int))
    · refine ev_pos (by simpa using h) (ih ?_)
      intro row hr
      rw [List.take_succ_eq_append_getElem hj, List.mem_append, List.mem_singleton] at hr
      rcases hr with hr | hr
      · exact hc row hr
      · rw [hr, ← rdL_nat s j hj]; exact h
    · refine ev_neg (by simpa using h) (ev_end ?_)
      symm
      rw [decide_eq_false_iff_not]
      exact fun l => h (l.1 _ hm)
theorem latin_ev (s : List (List Int)) (hs : s.length ≤ 1000) (hw : ∀ row ∈ s, row.length ≤ 1000) : Ev (fun k => rotation_Latin.f k s) (decide (Lat s)) := by
  simp only [rotation_Latin.f]
  exact latin_l0 s hs hw 0 (by omega) (fun row hr => by simp at hr)
end Go.Proofs.Ytaodpgblleiiaaa.E
end
section
namespace Go.Proofs.Ytaodpgblleiiaaa.E
open Go.RowKit Go.Proofs.YtaodpgblleiiaaaW.PrintWords Go.Proofs.YtaodpgblleiiaaaW.PrintLast Go.Proofs.Ytaodpgblleiiaaa.P
set_option linter.unusedVariables false
theorem mod_two (x n : Nat) (h : x < 2 * n) : x % n = if x < n then x else x - n := by
  split
  · rename_i h1; exact Nat.mod_eq_of_lt h1
  · rename_i h1
    rw [Nat.mod_eq_sub_mod (by omega), Nat.mod_eq_of_lt (by omega)]
theorem mod_inj (a b c n : Nat) (ha : a < n) (hb : b < n) (h : (a + c) % n = (b + c) % n) : a = b := by
  have hc := Nat.mod_lt c (show 0 < n by omega)
  rw [Nat.add_mod a c, Nat.add_mod b c, Nat.mod_eq_of_lt ha, Nat.mod_eq_of_lt hb] at h
  generalize c % n = d at h hc
  rw [mod_two (a + d) n (by omega), mod_two (b + d) n (by omega)] at h
  split at h <;> split at h <;> omega
theorem upto_nodup (F : Nat → Int) (n : Nat) (h : ∀ a b, a < n → b < n → F a = F b → a = b) : (upto F n).Nodup := by
  unfold upto List.Nodup
  rw [List.pairwise_map]
  refine List.Pairwise.imp_of_mem ?_ List.nodup_range
  intro a b ha hb hne e
  exact hne (h a b (List.mem_range.mp ha) (List.mem_range.mp hb) e)
theorem upto_good (F : Nat → Nat) (n : Nat) (hr : ∀ a, a < n → F a < n) (h : ∀ a b, a < n → b < n → F a = F b → a = b) : Good n (upto (fun g => ((F g : Nat) : Int)) n) := by
  refine ⟨upto_len _ _, ?_, upto_nodup _ _ (fun a b ha hb e => h a b ha hb (by omega))⟩
  intro x hx
  unfold upto at hx
  obtain ⟨a, ha, rfl⟩ := List.mem_map.mp hx
  have := hr a (List.mem_range.mp ha)
  omega
theorem upto_rd (F : Nat → Int) (n j : Nat) (h : j < n) : rd (upto F n) (j : Int) = F j := by
  rw [rd_nat _ _ (by rw [upto_len]; exact h), upto_get]
theorem upto_rdL (F : Nat → List Int) (n j : Nat) (h : j < n) : rd_L1 (upto F n) (j : Int) = F j := by
  rw [rdL_nat _ _ (by rw [upto_len]; exact h), upto_get]
theorem col_upto (R : Nat → Nat → Int) (n m g : Nat) (hg : g < n) : col (upto (fun t => upto (R t) n) m) g = upto (fun t => R t g) m := by
  unfold col upto
  rw [List.map_map]
  refine List.map_congr_left (fun t _ => ?_)
  exact upto_rd (R t) n g hg
theorem lat_upto (R : Nat → Nat → Nat) (n : Nat) (hn : 0 < n) (hr : ∀ t g, t < n → g < n → R t g < n) (h1 : ∀ t a b, t < n → a < n → b < n → R t a = R t b → a = b)
    (h2 : ∀ g a b, g < n → a < n → b < n → R a g = R b g → a = b) : Lat (upto (fun t => upto (fun g => ((R t g : Nat) : Int)) n) n) := by
  unfold Lat
  rw [upto_len]
  refine ⟨?_, ?_, hn⟩
  · intro row hrow
    unfold upto at hrow
    obtain ⟨t, ht, rfl⟩ := List.mem_map.mp hrow
    have ht := List.mem_range.mp ht
    exact upto_good (R t) n (fun a ha => hr t a ht ha) (fun a b ha hb e => h1 t a b ht ha hb e)
  · intro g hg
    rw [col_upto (fun t g => ((R t g : Nat) : Int)) n n g hg]
    exact upto_good (fun t => R t g) n (fun a ha => hr a g ha hg) (fun a b ha hb e => h2 g a b hg ha hb e)
theorem cyc_lat (n : Nat) (hn : 0 < n) : Lat (cyc n) :=
  lat_upto (fun t g => (g + t) % n) n hn (fun t g ht hg => Nat.mod_lt _ hn) (fun t a b ht ha hb e => mod_inj a b t n ha hb e)
    (fun g a b hg ha hb e => mod_inj a b g n ha hb (by rw [Nat.add_comm a, Nat.add_comm b]; exact e))
theorem below_len : ∀ (n : Nat) (l : List Int), l.Nodup → (∀ x ∈ l, 0 ≤ x ∧ x < (n : Int)) → l.length ≤ n
  | 0, l, _, h => by
    cases l with
    | nil => simp
    | cons a l => have := h a List.mem_cons_self; omega
  | n + 1, l, hd, h => by
    have h1 := below_len n (l.erase (n : Int)) (hd.sublist List.erase_sublist) (fun x hx => by
      have h2 := h x (List.mem_of_mem_erase hx)
      have h3 : x ≠ (n : Int) := fun e => by
        subst e
        exact (List.Nodup.not_mem_erase hd) hx
      omega)
    have h2 := List.length_erase (a := (n : Int)) (l := l)
    rw [h2] at h1
    split at h1 <;> omega
theorem good_mem (n : Nat) (l : List Int) (h : Good n l) (a : Nat) (ha : a < n) : (a : Int) ∈ l := by
  by_cases hm : (a : Int) ∈ l
  · exact hm
  · have h1 := below_len n ((a : Int) :: l) (List.nodup_cons.mpr ⟨hm, h.2.2⟩) (fun x hx => by
      rcases List.mem_cons.mp hx with rfl | hx
      · omega
      · exact h.2.1 x hx)
    have := h.1
    simp at h1
    omega
theorem nodup_rd (l : List Int) (h : l.Nodup) (i j : Nat) (hi : i < l.length) (hj : j < l.length) (e : rd l (i : Int) = rd l (j : Int)) : i = j := by
  rw [rd_nat l i hi, rd_nat l j hj] at e
  by_cases h1 : i = j
  · exact h1
  · rcases Nat.lt_or_gt_of_ne h1 with h2 | h2
    · exact absurd e ((List.pairwise_iff_getElem.mp h) i j hi hj h2)
    · exact absurd e.symm ((List.pairwise_iff_getElem.mp h) j i hj hi h2)
end Go.Proofs.Ytaodpgblleiiaaa.E
end
section
namespace Go.Proofs.Ytaodpgblleiiaaa.E
open Go.RowKit Go.Proofs.YtaodpgblleiiaaaW.PrintWords Go.Proofs.YtaodpgblleiiaaaW.PrintLast Go.Proofs.Ytaodpgblleiiaaa.P
set_option linter.unusedVariables false
theorem once_in (l : List Int) (n : Nat) (hl : l.length = n) (hn : n ≤ 1000) (i : Nat) (hi : i < n) (hd : (l.take i).Nodup) (r : Bool)
    (h1 : (l.take (i + 1)).Nodup → Ev (fun k => salchowref36_Once.l0 k l n ((i + 1 : Nat) : Int)) r) (h0 : ¬ l.Nodup → r = false) :
    ∀ j, j ≤ i → (∀ x ∈ l.take j, x ≠ rd l (i : Int)) → Ev (fun k => salchowref36_Once.l1 k l n (i : Int) (j : Int)) r := by
  refine down i ?_ ?_
  · intro h
    refine ev_round ?_
    simp only [salchowref36_Once.l1]
    rw [wid (by omega) (by omega)]
    refine ev_neg (by omega) (h1 ?_)
    rw [take_next l i (by omega)]
    refine List.nodup_append.mpr ⟨hd, by simp, ?_⟩
    intro a ha b hb
    rw [List.mem_singleton.mp hb]
    exact h a ha
  · intro j hj ih h
    refine ev_round ?_
    simp only [salchowref36_Once.l1]
    rw [wid (by omega) (by omega)]
    refine ev_pos (by omega) (ev_pos (by omega) (ev_pos (by omega) (ev_pos (by omega) (ev_pos (by omega) (ev_ite (fun e => ev_end ?_) (fun e => ih ?_))))))
    · refine (h0 ?_).symm
      intro hn
      have := nodup_rd l hn j i (by omega) (by omega) e
      omega
    · intro x hx
      rw [take_next l j (by omega), List.mem_append, List.mem_singleton] at hx
      rcases hx with hx | hx
      · exact h x hx
      · rw [hx]; exact e
theorem once_l (l : List Int) (n : Nat) (hl : l.length = n) (hn : n ≤ 1000) : ∀ i, i ≤ n → (∀ x ∈ l.take i, 0 ≤ x ∧ x < (n : Int)) → (l.take i).Nodup →
    Ev (fun k => salchowref36_Once.l0 k l n (i : Int)) (decide (Good n l)) := by
  refine down n ?_ ?_
  · intro h hd
    rw [← hl, List.take_length] at h hd
    refine ev_round ?_
    simp only [salchowref36_Once.l0]
    refine ev_neg (by omega) (ev_end (decide_eq_true ?_).symm)
    exact ⟨hl, by rw [← hl]; exact h, hd⟩
  · intro i hi ih h hd
    refine ev_round ?_
    simp only [salchowref36_Once.l0]
    have hm := rd_mem l i (by omega)
    have no : (¬ Good n l) → Ev (fun k => salchowref36_Once.j1 k l n (i : Int) true) (decide (Good n l)) := fun h => by
      refine ev_round ?_
      simp only [salchowref36_Once.j1]
      exact ev_pos (by simp) (ev_end (decide_eq_false h).symm)
    refine ev_pos (by omega) (ev_pos (by omega) (ev_pos (by omega) (ev_ite (fun e => no ?_) (fun e => ?_))))
    · intro g; have := g.2.1 _ hm; omega
    · by_cases e2 : rd l (i : Int) ≥ (n : Int)
      · rw [decide_eq_true e2]
        exact no (fun g => by have := g.2.1 _ hm; omega)
      · rw [decide_eq_false e2]
        refine ev_round ?_
        simp only [salchowref36_Once.j1]
        refine ev_neg (by simp) (once_in l n hl hn i hi hd _ (fun hd2 => ih ?_ hd2) (fun hd2 => decide_eq_false (fun g => hd2 g.2.2)) 0 (by omega) (fun x hx => by simp at hx))
        intro x hx
        rw [take_next l i (by omega), List.mem_append, List.mem_singleton] at hx
        rcases hx with hx | hx
        · exact h x hx
        · rw [hx]; omega
theorem once_ev (l : List Int) (n : Nat) (hn : n ≤ 1000) : Ev (fun k => salchowref36_Once.f k l n) (decide (Good n l)) := by
  simp only [salchowref36_Once.f]
  refine ev_ite (fun h => once_l l n (by omega) hn 0 (by omega) (fun x hx => by simp at hx) (by simp)) (fun h => ev_end ?_)
  symm; rw [decide_eq_false_iff_not]
  intro g; have := g.1; omega
end Go.Proofs.Ytaodpgblleiiaaa.E
end
section
namespace Go.Proofs.Ytaodpgblleiiaaa.E
open Go.RowKit Go.Proofs.YtaodpgblleiiaaaW.PrintWords Go.Proofs.YtaodpgblleiiaaaW.PrintLast Go.Proofs.Ytaodpgblleiiaaa.P
set_option linter.unusedVariables false
def slow (row sizes seconds : List Int) : Nat → Int
  | 0 => 0
  | j + 1 => mx (slow row sizes seconds j) (wrap64 (rd sizes (j : Int) * rd seconds (rd row (j : Int))))
def start_ (s : List (List Int)) (sizes seconds : List Int) (pause : Int) : Nat → Int
  | 0 => 0
  | t + 1 => if t + 1 < s.length then wrap64 (wrap64 (start_ s sizes seconds pause t + slow (rd_L1 s (t : Int)) sizes seconds s.length) + pause)
      else wrap64 (start_ s sizes seconds pause t + slow (rd_L1 s (t : Int)) sizes seconds s.length)
def table_ (s : List (List Int)) (sizes seconds : List Int) (pause : Int) (t : Nat) : List Int := upto (start_ s sizes seconds pause) t
theorem times_l1 (s : List (List Int)) (sizes seconds : List Int) (pause : Int) (hs : s.length ≤ 1000) (h1 : sizes.length = s.length) (h2 : seconds.length = s.length) (t : Nat) (ht : t < s.length)
    (hrow : Good s.length (rd_L1 s (t : Int))) (r : List Int)
    (ih : Ev (fun k => rotation_times.l0 k s sizes seconds pause (table_ s sizes seconds pause (t + 1 + 1)) (start_ s sizes seconds pause (t + 1)) s s.length ((t + 1 : Nat) : Int)) r) :
    ∀ j, j ≤ s.length → Ev (fun k => rotation_times.l1 k s sizes seconds pause (table_ s sizes seconds pause (t + 1)) (start_ s sizes seconds pause t) t (slow (rd_L1 s (t : Int)) sizes seconds j) s s.length t (rd_L1 s (t : Int)) (rd_L1 s (t : Int)).length (j : Int)) r := by
  have hl := hrow.1
  refine down s.length ?_ ?_
  · refine ev_round ?_
    simp only [rotation_times.l1]
    have e : table_ s sizes seconds pause (t + 1 + 1) = table_ s sizes seconds pause (t + 1) ++ [start_ s sizes seconds pause (t + 1)] := upto_succ _ _
    have e2 : start_ s sizes seconds pause (t + 1) = if t + 1 < s.length then wrap64 (wrap64 (start_ s sizes seconds pause t + slow (rd_L1 s (t : Int)) sizes seconds s.length) + pause)
      else wrap64 (start_ s sizes seconds pause t + slow (rd_L1 s (t : Int)) sizes seconds s.length) := rfl
    rw [e] at ih
    rw [wid (x := (t : Int) + 1) (by omega) (by omega)]
    have hlen : (table_ s sizes seconds pause (t + 1)).length = t + 1 := upto_len _ _
    refine ev_neg (by omega) (ev_ite (fun h => ev_pos (by omega) ?_) (fun h => ev_pos (by omega) ?_))
    · rw [if_pos (by omega)] at e2
      rw [← e2]; exact ih
    · rw [if_neg (by omega)] at e2
      rw [← e2]; exact ih
  · intro j hj ih2
    refine ev_round ?_
    simp only [rotation_times.l1]
    have hm := hrow.2.1 _ (rd_mem (rd_L1 s (t : Int)) j (by omega))
    rw [wid (x := (j : Int) + 1) (by omega) (by omega)]
    exact ev_pos (by omega) (ev_pos (by omega) (ev_pos (by omega) (ev_pos (by omega) (ev_pos (by omega) (ev_pos (by omega) ih2)))))
theorem times_l0 (s : List (List Int)) (sizes seconds : List Int) (pause : Int) (hs : s.length ≤ 1000) (h1 : sizes.length = s.length) (h2 : seconds.length = s.length) (hrow : ∀ row ∈ s, Good s.length row) :
    ∀ t, t ≤ s.length → Ev (fun k => rotation_times.l0 k s sizes seconds pause (table_ s sizes seconds pause (t + 1)) (start_ s sizes seconds pause t) s s.length (t : Int)) (table_ s sizes seconds pause (s.length + 1)) := by
  refine down s.length ?_ ?_
  · refine ev_round ?_
    simp only [rotation_times.l0]
    exact ev_neg (by omega) (ev_end rfl)
  · intro t ht ih
    refine ev_round ?_
    simp only [rotation_times.l0]
    exact ev_pos (by omega) (ev_pos (by omega) (ev_pos (by omega) (times_l1 s sizes seconds pause hs h1 h2 t ht (hrow _ (rdL_mem s t ht)) _ ih 0 (by omega))))
theorem times_ev (s : List (List Int)) (sizes seconds : List Int) (pause : Int) (hs : s.length ≤ 1000) (h1 : sizes.length = s.length) (h2 : seconds.length = s.length) (hrow : ∀ row ∈ s, Good s.length row) :
    Ev (fun k => rotation_times.f k s sizes seconds pause) (table_ s sizes seconds pause (s.length + 1)) := by
  simp only [rotation_times.f]
  exact times_l0 s sizes seconds pause hs h1 h2 hrow 0 (by omega)
theorem reftime_l1 (s : List (List Int)) (sizes seconds : List Int) (pause : Int) (hs : s.length ≤ 1000) (h1 : sizes.length = s.length) (h2 : seconds.length = s.length) (t : Nat) (ht : t < s.length)
    (hrow : Good s.length (rd_L1 s (t : Int))) (r : List Int)
    (ih : Ev (fun k => salchowref36_Timetable.l0 k s sizes seconds pause (table_ s sizes seconds pause (t + 1 + 1)) (start_ s sizes seconds pause (t + 1)) ((t + 1 : Nat) : Int)) r) :
    ∀ j, j ≤ s.length → Ev (fun k => salchowref36_Timetable.l1 k s sizes seconds pause (table_ s sizes seconds pause (t + 1)) (start_ s sizes seconds pause t) t (slow (rd_L1 s (t : Int)) sizes seconds j) (j : Int)) r := by
  have hl := hrow.1
  refine down s.length ?_ ?_
  · refine ev_round ?_
    simp only [salchowref36_Timetable.l1]
    have e : table_ s sizes seconds pause (t + 1 + 1) = table_ s sizes seconds pause (t + 1) ++ [start_ s sizes seconds pause (t + 1)] := upto_succ _ _
    have e2 : start_ s sizes seconds pause (t + 1) = if t + 1 < s.length then wrap64 (wrap64 (start_ s sizes seconds pause t + slow (rd_L1 s (t : Int)) sizes seconds s.length) + pause)
      else wrap64 (start_ s sizes seconds pause t + slow (rd_L1 s (t : Int)) sizes seconds s.length) := rfl
    rw [e] at ih
    rw [wid (x := (t : Int) + 1) (by omega) (by omega)]
    have hlen : (table_ s sizes seconds pause (t + 1)).length = t + 1 := upto_len _ _
    refine ev_neg (by omega) (ev_ite (fun h => ev_pos (by omega) ?_) (fun h => ev_pos (by omega) ?_))
    · rw [if_pos (by omega)] at e2
      rw [← e2]; exact ih
    · rw [if_neg (by omega)] at e2
      rw [← e2]; exact ih
  · intro j hj ih2
    refine ev_round ?_
    simp only [salchowref36_Timetable.l1]
    have hm := hrow.2.1 _ (rd_mem (rd_L1 s (t : Int)) j (by omega))
    rw [wid (x := (j : Int) + 1) (by omega) (by omega)]
    exact ev_pos (by omega) (ev_pos (by omega) (ev_pos (by omega) (ev_pos (by omega) (ev_pos (by omega) (ev_pos (by omega) (ev_pos (by omega) (ev_pos (by omega) ih2)))))))
theorem reftime_l0 (s : List (List Int)) (sizes seconds : List Int) (pause : Int) (hs : s.length ≤ 1000) (h1 : sizes.length = s.length) (h2 : seconds.length = s.length) (hrow : ∀ row ∈ s, Good s.length row) :
    ∀ t, t ≤ s.length → Ev (fun k => salchowref36_Timetable.l0 k s sizes seconds pause (table_ s sizes seconds pause (t + 1)) (start_ s sizes seconds pause t) (t : Int)) (table_ s sizes seconds pause (s.length + 1)) := by
  refine down s.length ?_ ?_
  · refine ev_round ?_
    simp only [salchowref36_Timetable.l0]
    exact ev_neg (by omega) (ev_end rfl)
  · intro t ht ih
    refine ev_round ?_
    simp only [salchowref36_Timetable.l0]
    exact ev_pos (by omega) (reftime_l1 s sizes seconds pause hs h1 h2 t ht (hrow _ (rdL_mem s t ht)) _ ih 0 (by omega))
theorem reftime_ev (s : List (List Int)) (sizes seconds : List Int) (pause : Int) (hs : s.length ≤ 1000) (h1 : sizes.length = s.length) (h2 : seconds.length = s.length) (hrow : ∀ row ∈ s, Good s.length row) :
    Ev (fun k => salchowref36_Timetable.f k s sizes seconds pause) (table_ s sizes seconds pause (s.length + 1)) := by
  simp only [salchowref36_Timetable.f]
  exact reftime_l0 s sizes seconds pause hs h1 h2 hrow 0 (by omega)
def InR (m : Int) (l : List Int) : Prop := ∀ x ∈ l, 0 ≤ x ∧ x ≤ m
instance (m : Int) (l : List Int) : Decidable (InR m l) := by unfold InR; infer_instance
def Rng (sizes seconds : List Int) (pause : Int) : Prop := InR 1000 sizes ∧ InR 10000 seconds ∧ (0 ≤ pause ∧ pause ≤ 100000)
instance (a b : List Int) (c : Int) : Decidable (Rng a b c) := by unfold Rng; infer_instance
theorem anyB_iff (m : Int) (l : List Int) : P.anyB m l = true ↔ ¬ InR m l := by
  unfold P.anyB InR
  rw [List.any_eq_true]
  constructor
  · rintro ⟨x, hx, hb⟩ h
    have := h x hx
    unfold beyond at hb
    rw [if_neg (by omega)] at hb
    have := of_decide_eq_true hb
    omega
  · intro h
    by_cases hh : ∃ x, x ∈ l ∧ beyond m x = true
    · exact hh
    · refine absurd (fun x hx => ?_) h
      by_cases hb : beyond m x = true
      · exact absurd ⟨x, hx, hb⟩ hh
      · unfold beyond at hb
        split at hb
        · exact absurd rfl hb
        · simp at hb; omega
theorem ranges_ev (a b : List Int) (c : Int) (ha : a.length ≤ 1000) (hb : b.length ≤ 1000) : rotation_ranges.f a b c = some (if Rng a b c then 0 else 5) := by
  unfold rotation_ranges.f
  rw [if_pos (by omega), if_pos (by omega)]
  by_cases h1 : InR 1000 a
  · rw [if_neg (by rw [anyB_iff]; exact fun h => h h1)]
    by_cases h2 : InR 10000 b
    · rw [if_neg (by rw [anyB_iff]; exact fun h => h h2)]
      by_cases h3 : 0 ≤ c ∧ c ≤ 100000
      · rw [if_pos (show Rng a b c from ⟨h1, h2, h3⟩), if_neg]
        unfold beyond
        rw [if_neg (by omega)]
        simp; omega
      · rw [if_neg (show ¬ Rng a b c from fun h => h3 h.2.2), if_pos]
        unfold beyond
        split
        · rfl
        · simp; omega
    · rw [if_pos (by rw [anyB_iff]; exact h2), if_neg (show ¬ Rng a b c from fun h => h2 h.2.1)]
  · rw [if_pos (by rw [anyB_iff]; exact h1), if_neg (show ¬ Rng a b c from fun h => h1 h.1)]
theorem refrange_l1 (a b : List Int) (c : Int) (ha : InR 1000 a) (hb : b.length ≤ 1000) : ∀ j, j ≤ b.length → (∀ x ∈ b.take j, 0 ≤ x ∧ x ≤ 10000) → Ev (fun k => salchowref36_Range.l1 k b c (j : Int)) (decide (Rng a b c)) := by
  refine down b.length ?_ ?_
  · intro h
    rw [List.take_length] at h
    refine ev_round ?_
    simp only [salchowref36_Range.l1]
    refine ev_neg (by omega) (ev_ite (fun h3 => ev_end (bdec ⟨fun h4 => ⟨ha, h, by simp at h4; omega⟩, fun h4 => by have := h4.2.2; simp; omega⟩)) (fun h3 => ev_end (decide_eq_false (fun h4 => by have := h4.2.2; omega)).symm))
  · intro j hj ih h
    refine ev_round ?_
    simp only [salchowref36_Range.l1]
    have hm := rd_mem b j hj
    rw [wid (by omega) (by omega)]
    refine ev_pos (by omega) (ev_pos (by omega) (ev_ite (fun h3 => ev_end (decide_eq_false (fun h4 => by have := h4.2.1 _ hm; omega)).symm) (fun h3 => ev_ite (fun h5 => ev_end (decide_eq_false (fun h4 => by have := h4.2.1 _ hm; omega)).symm) (fun h5 => ih ?_))))
    intro x hx
    rw [take_next b j hj, List.mem_append, List.mem_singleton] at hx
    rcases hx with hx | hx
    · exact h x hx
    · rw [hx]; omega
theorem refrange_l0 (a b : List Int) (c : Int) (ha : a.length ≤ 1000) (hb : b.length ≤ 1000) : ∀ j, j ≤ a.length → (∀ x ∈ a.take j, 0 ≤ x ∧ x ≤ 1000) → Ev (fun k => salchowref36_Range.l0 k a b c (j : Int)) (decide (Rng a b c)) := by
  refine down a.length ?_ ?_
  · intro h
    rw [List.take_length] at h
    refine ev_round ?_
    simp only [salchowref36_Range.l0]
    exact ev_neg (by omega) (refrange_l1 a b c h hb 0 (by omega) (fun x hx => by simp at hx))
  · intro j hj ih h
    refine ev_round ?_
    simp only [salchowref36_Range.l0]
    have hm := rd_mem a j hj
    rw [wid (by omega) (by omega)]
    refine ev_pos (by omega) (ev_pos (by omega) (ev_ite (fun h3 => ev_end (decide_eq_false (fun h4 => by have := h4.1 _ hm; omega)).symm) (fun h3 => ev_ite (fun h5 => ev_end (decide_eq_false (fun h4 => by have := h4.1 _ hm; omega)).symm) (fun h5 => ih ?_))))
    intro x hx
    rw [take_next a j hj, List.mem_append, List.mem_singleton] at hx
    rcases hx with hx | hx
    · exact h x hx
    · rw [hx]; omega
theorem refrange_ev (a b : List Int) (c : Int) (ha : a.length ≤ 1000) (hb : b.length ≤ 1000) : Ev (fun k => salchowref36_Range.f k a b c) (decide (Rng a b c)) := by
  simp only [salchowref36_Range.f]
  exact refrange_l0 a b c ha hb 0 (by omega) (fun x hx => by simp at hx)
def Fits (s : List (List Int)) (a b : List Int) : Prop := Lat s ∧ a.length = s.length ∧ b.length = s.length
instance (s : List (List Int)) (a b : List Int) : Decidable (Fits s a b) := by unfold Fits; infer_instance
theorem timetable_ev (s : List (List Int)) (a b : List Int) (c : Int) (hs : s.length ≤ 1000) (hw : ∀ row ∈ s, row.length ≤ 1000) :
    Ev (fun k => rotation_Timetable.f k s a b c) (if Fits s a b then (if Rng a b c then (table_ s a b c (s.length + 1), 0) else ([], 5)) else ([], 1)) := by
  have no : ¬ Fits s a b → Ev (fun k => rotation_Timetable.j0 k s a b c true) (if Fits s a b then (if Rng a b c then (table_ s a b c (s.length + 1), 0) else ([], 5)) else ([], 1)) := fun h => by
    rw [if_neg h]
    refine ev_round ?_
    simp only [rotation_Timetable.j0]
    exact ev_pos (by simp) (ev_end rfl)
  simp only [rotation_Timetable.f]
  refine ev_call (latin_ev s hs hw) ?_
  by_cases h : Lat s
  · rw [decide_eq_true h]
    refine ev_pos rfl ?_
    by_cases h1 : a.length = s.length
    · refine ev_pos (by omega) ?_
      by_cases h2 : b.length = s.length
      · have e : ((b.length : Int) != (s.length : Int)) = false := by rw [bne_eq_false_iff_eq]; omega
        rw [e, if_pos (show Fits s a b from ⟨h, h1, h2⟩)]
        refine ev_round ?_
        simp only [rotation_Timetable.j0]
        refine ev_neg (by simp) (ev_const (ranges_ev a b c (by omega) (by omega)) ?_)
        by_cases h3 : Rng a b c
        · rw [if_pos h3, if_pos h3]
          exact ev_pos (by simp) (ev_call (times_ev s a b c hs h1 h2 h.1) (ev_end rfl))
        · rw [if_neg h3, if_neg h3]
          exact ev_neg (by simp) (ev_end rfl)
      · have e : ((b.length : Int) != (s.length : Int)) = true := by rw [bne_iff_ne]; omega
        rw [e]
        exact no (fun f => h2 f.2.2)
    · exact ev_neg (by omega) (no (fun f => h1 f.2.1))
  · rw [decide_eq_false h]
    exact ev_neg (by simp) (no (fun f => h f.1))
end Go.Proofs.Ytaodpgblleiiaaa.E
end
