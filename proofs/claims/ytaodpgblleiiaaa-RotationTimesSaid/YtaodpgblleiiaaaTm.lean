/- The plain side of the timetable. -/
import Derived.Test.YtaodpgblleiiaaaRf
import Derived.Test.YtaodpgblleiiaaaPx4
import Derived.Test.YtaodpgblleiiaaaPx10
namespace Go.Proofs.Ytaodpgblleiiaaa.E
open Go.RowKit Go.Proofs.YtaodpgblleiiaaaW.PrintWords Go.Proofs.YtaodpgblleiiaaaW.PrintLast Go.Proofs.Ytaodpgblleiiaaa.P
set_option linter.unusedVariables false

/-- The slowest of the first j groups of a rotation. -/
def slow (row sizes seconds : List Int) : Nat → Int
  | 0 => 0
  | j + 1 => mx (slow row sizes seconds j) (wrap64 (rd sizes (j : Int) * rd seconds (rd row (j : Int))))
/-- When rotation t begins. -/
def start_ (s : List (List Int)) (sizes seconds : List Int) (pause : Int) : Nat → Int
  | 0 => 0
  | t + 1 => if t + 1 < s.length then wrap64 (wrap64 (start_ s sizes seconds pause t + slow (rd_L1 s (t : Int)) sizes seconds s.length) + pause)
      else wrap64 (start_ s sizes seconds pause t + slow (rd_L1 s (t : Int)) sizes seconds s.length)
def table_ (s : List (List Int)) (sizes seconds : List Int) (pause : Int) (t : Nat) : List Int := upto (start_ s sizes seconds pause) t

theorem times_l1 (s : List (List Int)) (sizes seconds : List Int) (pause : Int) (hs : s.length ≤ 1000) (h1 : sizes.length = s.length) (h2 : seconds.length = s.length) (t : Nat) (ht : t < s.length)
    (hrow : Good s.length (rd_L1 s (t : Int))) (r : List Int)
    (ih : Ev (fun k => rotation_times.l0 k s sizes seconds pause (table_ s sizes seconds pause (t + 1 + 1)) (start_ s sizes seconds pause (t + 1)) s s.length ((t + 1 : Nat) : Int)) r) :
    ∀ j, j ≤ s.length → Ev (fun k => rotation_times.l1 k s sizes seconds pause (table_ s sizes seconds pause (t + 1)) (start_ s sizes seconds pause t) t (slow (rd_L1 s (t : Int)) sizes seconds j) s s.length t (rd_L1 s (t : Int)) (rd_L1 s (t : Int)).length (j : Int)) r := by
  have hl := hrow.1
  refine down s.length ?_ ?_
  · refine ev_round ?_
    simp only [rotation_times.l1]
    have e : table_ s sizes seconds pause (t + 1 + 1) = table_ s sizes seconds pause (t + 1) ++ [start_ s sizes seconds pause (t + 1)] := upto_succ _ _
    have e2 : start_ s sizes seconds pause (t + 1) = if t + 1 < s.length then wrap64 (wrap64 (start_ s sizes seconds pause t + slow (rd_L1 s (t : Int)) sizes seconds s.length) + pause)
      else wrap64 (start_ s sizes seconds pause t + slow (rd_L1 s (t : Int)) sizes seconds s.length) := rfl
    rw [e] at ih
    rw [wid (x := (t : Int) + 1) (by omega) (by omega)]
    have hlen : (table_ s sizes seconds pause (t + 1)).length = t + 1 := upto_len _ _
    refine ev_neg (by omega) (ev_ite (fun h => ev_pos (by omega) ?_) (fun h => ev_pos (by omega) ?_))
    · rw [if_pos (by omega)] at e2
      rw [← e2]; exact ih
    · rw [if_neg (by omega)] at e2
      rw [← e2]; exact ih
  · intro j hj ih2
    refine ev_round ?_
    simp only [rotation_times.l1]
    have hm := hrow.2.1 _ (rd_mem (rd_L1 s (t : Int)) j (by omega))
    rw [wid (x := (j : Int) + 1) (by omega) (by omega)]
    exact ev_pos (by omega) (ev_pos (by omega) (ev_pos (by omega) (ev_pos (by omega) (ev_pos (by omega) (ev_pos (by omega) ih2)))))
theorem times_l0 (s : List (List Int)) (sizes seconds : List Int) (pause : Int) (hs : s.length ≤ 1000) (h1 : sizes.length = s.length) (h2 : seconds.length = s.length) (hrow : ∀ row ∈ s, Good s.length row) :
    ∀ t, t ≤ s.length → Ev (fun k => rotation_times.l0 k s sizes seconds pause (table_ s sizes seconds pause (t + 1)) (start_ s sizes seconds pause t) s s.length (t : Int)) (table_ s sizes seconds pause (s.length + 1)) := by
  refine down s.length ?_ ?_
  · refine ev_round ?_
    simp only [rotation_times.l0]
    exact ev_neg (by omega) (ev_end rfl)
  · intro t ht ih
    refine ev_round ?_
    simp only [rotation_times.l0]
    exact ev_pos (by omega) (ev_pos (by omega) (ev_pos (by omega) (times_l1 s sizes seconds pause hs h1 h2 t ht (hrow _ (rdL_mem s t ht)) _ ih 0 (by omega))))
theorem times_ev (s : List (List Int)) (sizes seconds : List Int) (pause : Int) (hs : s.length ≤ 1000) (h1 : sizes.length = s.length) (h2 : seconds.length = s.length) (hrow : ∀ row ∈ s, Good s.length row) :
    Ev (fun k => rotation_times.f k s sizes seconds pause) (table_ s sizes seconds pause (s.length + 1)) := by
  simp only [rotation_times.f]
  exact times_l0 s sizes seconds pause hs h1 h2 hrow 0 (by omega)

theorem reftime_l1 (s : List (List Int)) (sizes seconds : List Int) (pause : Int) (hs : s.length ≤ 1000) (h1 : sizes.length = s.length) (h2 : seconds.length = s.length) (t : Nat) (ht : t < s.length)
    (hrow : Good s.length (rd_L1 s (t : Int))) (r : List Int)
    (ih : Ev (fun k => salchowref36_Timetable.l0 k s sizes seconds pause (table_ s sizes seconds pause (t + 1 + 1)) (start_ s sizes seconds pause (t + 1)) ((t + 1 : Nat) : Int)) r) :
    ∀ j, j ≤ s.length → Ev (fun k => salchowref36_Timetable.l1 k s sizes seconds pause (table_ s sizes seconds pause (t + 1)) (start_ s sizes seconds pause t) t (slow (rd_L1 s (t : Int)) sizes seconds j) (j : Int)) r := by
  have hl := hrow.1
  refine down s.length ?_ ?_
  · refine ev_round ?_
    simp only [salchowref36_Timetable.l1]
    have e : table_ s sizes seconds pause (t + 1 + 1) = table_ s sizes seconds pause (t + 1) ++ [start_ s sizes seconds pause (t + 1)] := upto_succ _ _
    have e2 : start_ s sizes seconds pause (t + 1) = if t + 1 < s.length then wrap64 (wrap64 (start_ s sizes seconds pause t + slow (rd_L1 s (t : Int)) sizes seconds s.length) + pause)
      else wrap64 (start_ s sizes seconds pause t + slow (rd_L1 s (t : Int)) sizes seconds s.length) := rfl
    rw [e] at ih
    rw [wid (x := (t : Int) + 1) (by omega) (by omega)]
    have hlen : (table_ s sizes seconds pause (t + 1)).length = t + 1 := upto_len _ _
    refine ev_neg (by omega) (ev_ite (fun h => ev_pos (by omega) ?_) (fun h => ev_pos (by omega) ?_))
    · rw [if_pos (by omega)] at e2
      rw [← e2]; exact ih
    · rw [if_neg (by omega)] at e2
      rw [← e2]; exact ih
  · intro j hj ih2
    refine ev_round ?_
    simp only [salchowref36_Timetable.l1]
    have hm := hrow.2.1 _ (rd_mem (rd_L1 s (t : Int)) j (by omega))
    rw [wid (x := (j : Int) + 1) (by omega) (by omega)]
    exact ev_pos (by omega) (ev_pos (by omega) (ev_pos (by omega) (ev_pos (by omega) (ev_pos (by omega) (ev_pos (by omega) (ev_pos (by omega) (ev_pos (by omega) ih2)))))))
theorem reftime_l0 (s : List (List Int)) (sizes seconds : List Int) (pause : Int) (hs : s.length ≤ 1000) (h1 : sizes.length = s.length) (h2 : seconds.length = s.length) (hrow : ∀ row ∈ s, Good s.length row) :
    ∀ t, t ≤ s.length → Ev (fun k => salchowref36_Timetable.l0 k s sizes seconds pause (table_ s sizes seconds pause (t + 1)) (start_ s sizes seconds pause t) (t : Int)) (table_ s sizes seconds pause (s.length + 1)) := by
  refine down s.length ?_ ?_
  · refine ev_round ?_
    simp only [salchowref36_Timetable.l0]
    exact ev_neg (by omega) (ev_end rfl)
  · intro t ht ih
    refine ev_round ?_
    simp only [salchowref36_Timetable.l0]
    exact ev_pos (by omega) (reftime_l1 s sizes seconds pause hs h1 h2 t ht (hrow _ (rdL_mem s t ht)) _ ih 0 (by omega))
theorem reftime_ev (s : List (List Int)) (sizes seconds : List Int) (pause : Int) (hs : s.length ≤ 1000) (h1 : sizes.length = s.length) (h2 : seconds.length = s.length) (hrow : ∀ row ∈ s, Good s.length row) :
    Ev (fun k => salchowref36_Timetable.f k s sizes seconds pause) (table_ s sizes seconds pause (s.length + 1)) := by
  simp only [salchowref36_Timetable.f]
  exact reftime_l0 s sizes seconds pause hs h1 h2 hrow 0 (by omega)

/-- Sizes, seconds and pause lie in their ranges. -/
def InR (m : Int) (l : List Int) : Prop := ∀ x ∈ l, 0 ≤ x ∧ x ≤ m
instance (m : Int) (l : List Int) : Decidable (InR m l) := by unfold InR; infer_instance
def Rng (sizes seconds : List Int) (pause : Int) : Prop := InR 1000 sizes ∧ InR 10000 seconds ∧ (0 ≤ pause ∧ pause ≤ 100000)
instance (a b : List Int) (c : Int) : Decidable (Rng a b c) := by unfold Rng; infer_instance
theorem anyB_iff (m : Int) (l : List Int) : P.anyB m l = true ↔ ¬ InR m l := by
  unfold P.anyB InR
  rw [List.any_eq_true]
  constructor
  · rintro ⟨x, hx, hb⟩ h
    have := h x hx
    unfold beyond at hb
    rw [if_neg (by omega)] at hb
    have := of_decide_eq_true hb
    omega
  · intro h
    by_cases hh : ∃ x, x ∈ l ∧ beyond m x = true
    · exact hh
    · refine absurd (fun x hx => ?_) h
      by_cases hb : beyond m x = true
      · exact absurd ⟨x, hx, hb⟩ hh
      · unfold beyond at hb
        split at hb
        · exact absurd rfl hb
        · simp at hb; omega
theorem ranges_ev (a b : List Int) (c : Int) (ha : a.length ≤ 1000) (hb : b.length ≤ 1000) : rotation_ranges.f a b c = some (if Rng a b c then 0 else 5) := by
  unfold rotation_ranges.f
  rw [if_pos (by omega), if_pos (by omega)]
  by_cases h1 : InR 1000 a
  · rw [if_neg (by rw [anyB_iff]; exact fun h => h h1)]
    by_cases h2 : InR 10000 b
    · rw [if_neg (by rw [anyB_iff]; exact fun h => h h2)]
      by_cases h3 : 0 ≤ c ∧ c ≤ 100000
      · rw [if_pos (show Rng a b c from ⟨h1, h2, h3⟩), if_neg]
        unfold beyond
        rw [if_neg (by omega)]
        simp; omega
      · rw [if_neg (show ¬ Rng a b c from fun h => h3 h.2.2), if_pos]
        unfold beyond
        split
        · rfl
        · simp; omega
    · rw [if_pos (by rw [anyB_iff]; exact h2), if_neg (show ¬ Rng a b c from fun h => h2 h.2.1)]
  · rw [if_pos (by rw [anyB_iff]; exact h1), if_neg (show ¬ Rng a b c from fun h => h1 h.1)]

theorem refrange_l1 (a b : List Int) (c : Int) (ha : InR 1000 a) (hb : b.length ≤ 1000) : ∀ j, j ≤ b.length → (∀ x ∈ b.take j, 0 ≤ x ∧ x ≤ 10000) → Ev (fun k => salchowref36_Range.l1 k b c (j : Int)) (decide (Rng a b c)) := by
  refine down b.length ?_ ?_
  · intro h
    rw [List.take_length] at h
    refine ev_round ?_
    simp only [salchowref36_Range.l1]
    refine ev_neg (by omega) (ev_ite (fun h3 => ev_end (bdec ⟨fun h4 => ⟨ha, h, by simp at h4; omega⟩, fun h4 => by have := h4.2.2; simp; omega⟩)) (fun h3 => ev_end (decide_eq_false (fun h4 => by have := h4.2.2; omega)).symm))
  · intro j hj ih h
    refine ev_round ?_
    simp only [salchowref36_Range.l1]
    have hm := rd_mem b j hj
    rw [wid (by omega) (by omega)]
    refine ev_pos (by omega) (ev_pos (by omega) (ev_ite (fun h3 => ev_end (decide_eq_false (fun h4 => by have := h4.2.1 _ hm; omega)).symm) (fun h3 => ev_ite (fun h5 => ev_end (decide_eq_false (fun h4 => by have := h4.2.1 _ hm; omega)).symm) (fun h5 => ih ?_))))
    intro x hx
    rw [take_next b j hj, List.mem_append, List.mem_singleton] at hx
    rcases hx with hx | hx
    · exact h x hx
    · rw [hx]; omega
theorem refrange_l0 (a b : List Int) (c : Int) (ha : a.length ≤ 1000) (hb : b.length ≤ 1000) : ∀ j, j ≤ a.length → (∀ x ∈ a.take j, 0 ≤ x ∧ x ≤ 1000) → Ev (fun k => salchowref36_Range.l0 k a b c (j : Int)) (decide (Rng a b c)) := by
  refine down a.length ?_ ?_
  · intro h
    rw [List.take_length] at h
    refine ev_round ?_
    simp only [salchowref36_Range.l0]
    exact ev_neg (by omega) (refrange_l1 a b c h hb 0 (by omega) (fun x hx => by simp at hx))
  · intro j hj ih h
    refine ev_round ?_
    simp only [salchowref36_Range.l0]
    have hm := rd_mem a j hj
    rw [wid (by omega) (by omega)]
    refine ev_pos (by omega) (ev_pos (by omega) (ev_ite (fun h3 => ev_end (decide_eq_false (fun h4 => by have := h4.1 _ hm; omega)).symm) (fun h3 => ev_ite (fun h5 => ev_end (decide_eq_false (fun h4 => by have := h4.1 _ hm; omega)).symm) (fun h5 => ih ?_))))
    intro x hx
    rw [take_next a j hj, List.mem_append, List.mem_singleton] at hx
    rcases hx with hx | hx
    · exact h x hx
    · rw [hx]; omega
theorem refrange_ev (a b : List Int) (c : Int) (ha : a.length ≤ 1000) (hb : b.length ≤ 1000) : Ev (fun k => salchowref36_Range.f k a b c) (decide (Rng a b c)) := by
  simp only [salchowref36_Range.f]
  exact refrange_l0 a b c ha hb 0 (by omega) (fun x hx => by simp at hx)

def Fits (s : List (List Int)) (a b : List Int) : Prop := Lat s ∧ a.length = s.length ∧ b.length = s.length
instance (s : List (List Int)) (a b : List Int) : Decidable (Fits s a b) := by unfold Fits; infer_instance
theorem timetable_ev (s : List (List Int)) (a b : List Int) (c : Int) (hs : s.length ≤ 1000) (hw : ∀ row ∈ s, row.length ≤ 1000) :
    Ev (fun k => rotation_Timetable.f k s a b c) (if Fits s a b then (if Rng a b c then (table_ s a b c (s.length + 1), 0) else ([], 5)) else ([], 1)) := by
  have no : ¬ Fits s a b → Ev (fun k => rotation_Timetable.j0 k s a b c true) (if Fits s a b then (if Rng a b c then (table_ s a b c (s.length + 1), 0) else ([], 5)) else ([], 1)) := fun h => by
    rw [if_neg h]
    refine ev_round ?_
    simp only [rotation_Timetable.j0]
    exact ev_pos (by simp) (ev_end rfl)
  simp only [rotation_Timetable.f]
  refine ev_call (latin_ev s hs hw) ?_
  by_cases h : Lat s
  · rw [decide_eq_true h]
    refine ev_pos rfl ?_
    by_cases h1 : a.length = s.length
    · refine ev_pos (by omega) ?_
      by_cases h2 : b.length = s.length
      · have e : ((b.length : Int) != (s.length : Int)) = false := by rw [bne_eq_false_iff_eq]; omega
        rw [e, if_pos (show Fits s a b from ⟨h, h1, h2⟩)]
        refine ev_round ?_
        simp only [rotation_Timetable.j0]
        refine ev_neg (by simp) (ev_const (ranges_ev a b c (by omega) (by omega)) ?_)
        by_cases h3 : Rng a b c
        · rw [if_pos h3, if_pos h3]
          exact ev_pos (by simp) (ev_call (times_ev s a b c hs h1 h2 h.1) (ev_end rfl))
        · rw [if_neg h3, if_neg h3]
          exact ev_neg (by simp) (ev_end rfl)
      · have e : ((b.length : Int) != (s.length : Int)) = true := by rw [bne_iff_ne]; omega
        rw [e]
        exact no (fun f => h2 f.2.2)
    · exact ev_neg (by omega) (no (fun f => h1 f.2.1))
  · rw [decide_eq_false h]
    exact ev_neg (by simp) (no (fun f => h f.1))
end Go.Proofs.Ytaodpgblleiiaaa.E
