/- The program's search and the specification's come to the same; no assignment ends before it. -/
import Derived.Test.YtaodpgblleiiaaaYc
namespace Go.Proofs.Ytaodpgblleiiaaa.E
open Go.RowKit Go.Proofs.YtaodpgblleiiaaaW.PrintWords Go.Proofs.YtaodpgblleiiaaaW.PrintLast Go.Proofs.Ytaodpgblleiiaaa.P
set_option linter.unusedVariables false

theorem shortest_ev (a b : List Int) (c : Int) (ha : a.length ≤ 1000) (hb : b.length ≤ 1000) :
    Ev (fun k => rotation_Shortest.f k a b c) (if a.length = 0 ∨ b.length ≠ a.length then ([], 0, 1) else if 6 < a.length then ([], 0, 6) else if Rng a b c then
      (((allR a.length a.length []).foldl (upd a b c) ([], 0)).1, ((allR a.length a.length []).foldl (upd a b c) ([], 0)).2, 0) else ([], 0, 5)) := by
  unfold rotation_Shortest.f
  by_cases h1 : a.length = 0 ∨ b.length ≠ a.length
  · rw [if_pos h1]; exact ev_pos h1 (ev_end rfl)
  rw [if_neg h1]
  refine ev_neg h1 ?_
  by_cases h2 : 6 < a.length
  · rw [if_pos h2]; exact ev_pos h2 (ev_end rfl)
  rw [if_neg h2]
  refine ev_neg h2 (ev_const (ranges_ev a b c ha hb) ?_)
  by_cases h3 : Rng a b c
  · rw [if_pos h3, if_pos h3]
    refine ev_pos rfl (ev_call (cyclic_ev a.length (by omega)) ?_)
    exact ev_call (asg_ev a b c a.length rfl (by omega) (by omega) (by omega) a.length [] [] 0 (by simp)) (ev_end rfl)
  · rw [if_neg h3, if_neg h3]
    exact ev_neg (by decide) (ev_end rfl)
/-- The least end. -/
theorem fold_least (a b : List Int) (c : Int) : ∀ (L : List (List Int)) (s : List Int × Int), (∀ q ∈ L, q ≠ []) → (s.1 = [] ∨ s.2 = endV a b c s.1) →
    ((∀ q ∈ L, (L.foldl (upd a b c) s).2 ≤ endV a b c q) ∧ (s.1 ≠ [] → (L.foldl (upd a b c) s).2 ≤ s.2) ∧ ((L.foldl (upd a b c) s = s) ∨ ((L.foldl (upd a b c) s).1 ∈ L ∧ (L.foldl (upd a b c) s).2 = endV a b c (L.foldl (upd a b c) s).1)))
  | [], s, _, _ => ⟨(fun q hq => by cases hq), fun _ => Int.le_refl _, .inl rfl⟩
  | p :: L, s, hL, hs => by
    rw [List.foldl_cons]
    have hp := hL p List.mem_cons_self
    by_cases h : s.1 = [] ∨ endV a b c p < s.2
    · have eu : upd a b c s p = (p, endV a b c p) := by unfold upd; rw [if_pos h]
      rw [eu]
      obtain ⟨h1, h2, h3⟩ := fold_least a b c L (p, endV a b c p) (fun q hq => hL q (List.mem_cons_of_mem _ hq)) (.inr rfl)
      have h4 := h2 hp
      refine ⟨fun q hq => ?_, fun hne => Int.le_trans h4 (Int.le_of_lt (h.resolve_left hne)), ?_⟩
      · rcases List.mem_cons.mp hq with rfl | hq
        · exact h4
        · exact h1 q hq
      · rcases h3 with h3 | ⟨h3, h5⟩
        · rw [h3]; exact .inr ⟨List.mem_cons_self, rfl⟩
        · exact .inr ⟨List.mem_cons_of_mem _ h3, h5⟩
    · have eu : upd a b c s p = s := by unfold upd; rw [if_neg h]
      rw [eu]
      obtain ⟨h1, h2, h3⟩ := fold_least a b c L s (fun q hq => hL q (List.mem_cons_of_mem _ hq)) hs
      have hne : s.1 ≠ [] := fun e => h (.inl e)
      have h4 := h2 hne
      refine ⟨fun q hq => ?_, fun _ => h4, ?_⟩
      · rcases List.mem_cons.mp hq with rfl | hq
        · have : ¬ endV a b c q < s.2 := fun e => h (.inr e)
          omega
        · exact h1 q hq
      · rcases h3 with h3 | ⟨h3, h5⟩
        · exact .inl h3
        · exact .inr ⟨List.mem_cons_of_mem _ h3, h5⟩
theorem all_ne (n : Nat) (hn : 1 ≤ n) : ∀ q ∈ allR n n [], q ≠ [] := by
  intro q hq e
  have := (all_good n n [] q ⟨(fun x hx => by cases hx), List.nodup_nil⟩ (by simp) hq).1
  rw [e] at this
  simp at this; omega
theorem range_nat : ∀ n : Nat, Good n ((List.range n).map fun i : Nat => (i : Int)) := by
  intro n
  refine ⟨by simp, ?_, ?_⟩
  · intro x hx
    rw [List.mem_map] at hx
    obtain ⟨i, hi, rfl⟩ := hx
    rw [List.mem_range] at hi
    omega
  · rw [List.nodup_iff_pairwise_ne, List.pairwise_map]
    exact List.nodup_range.imp (fun h e => h (by omega))
theorem all_some (n : Nat) : allR n n [] ≠ [] := by
  have h := good_all n ((List.range n).map fun i : Nat => (i : Int)) [] (by rw [List.nil_append]; exact range_nat n)
  rw [List.length_map, List.length_range] at h
  intro e
  rw [e] at h
  cases h

theorem end_l (p a b : List Int) (c : Int) (n : Nat) (hp : Good n p) (ha : a.length = n) (hb : b.length = n) (h1 : 1 ≤ n) (h6 : n ≤ 64) : ∀ (m i : Nat), i + m = n →
    Ev (fun k => salchowref36_End.l0 k p a b c (n : Int) ((p.take i).map fun g => rd a g) (i : Int)) (endV a b c p) := by
  intro m
  induction m with
  | zero =>
    intro i hi
    obtain rfl : i = n := by omega
    have hlat := cyc_lat i (by omega)
    have ht := reftime_ev (cyc i) (p.map fun g => rd a g) b c (by rw [cyc_len]; omega) (by rw [cyc_len, List.length_map]; exact hp.1) (by rw [cyc_len]; omega) hlat.1
    rw [cyc_len] at ht
    obtain ⟨e1, e2⟩ := table_rd (cyc i) (p.map fun g => rd a g) b c i
    refine ev_round ?_
    simp only [salchowref36_End.l0]
    have et : p.take i = p := by rw [← hp.1]; exact List.take_length
    rw [et]
    refine ev_neg (by omega) (ev_call (refcyc_ev i (by omega)) (ev_call ht (ev_pos (by omega) (ev_pos (by omega) (ev_end ?_)))))
    rw [e2]; unfold endV; rw [ha]
  | succ m ih =>
    intro i hi
    have hil : i < p.length := by have := hp.1; omega
    have hr := hp.2.1 _ (rd_mem p i hil)
    have ew : wrap64 ((i : Int) + 1) = ((i + 1 : Nat) : Int) := wid (by omega) (by omega)
    refine ev_round ?_
    simp only [salchowref36_End.l0]
    refine ev_pos (by omega) (ev_pos (by omega) (ev_pos (by omega) (ev_pos (by omega) (ev_pos (by omega) (ev_pos (by rw [List.length_map, List.length_take]; omega) ?_)))))
    rw [ew]
    have h := ih (i + 1) (by omega)
    rw [take_next p i hil, List.map_append] at h
    exact h
theorem end_ev (p a b : List Int) (c : Int) (n : Nat) (hp : Good n p) (ha : a.length = n) (hb : b.length = n) (h1 : 1 ≤ n) (h6 : n ≤ 64) : Ev (fun k => salchowref36_End.f k p a b c) (endV a b c p) := by
  have h := end_l p a b c n hp ha hb h1 h6 n 0 (by omega)
  simp only [salchowref36_End.f]
  have e : (p.length : Int) = (n : Int) := by have := hp.1; omega
  rw [e]
  exact h
theorem refshort_ev (a b : List Int) (c : Int) (n : Nat) (ha : a.length = n) (hb : b.length = n) (h1 : 1 ≤ n) (h5 : n ≤ 5) :
    Ev (fun k => salchowref36_Shortest.f k a b c) ((allR n n []).foldl (upd a b c) ([], 0)) := by
  obtain ⟨L, hL⟩ : ∃ L, L = allR n n [] := ⟨_, rfl⟩
  have hlen : L.length ≤ 3125 := by
    have h2 : n ^ n ≤ 5 ^ n := Nat.pow_le_pow_left h5 n
    have h3 : 5 ^ n ≤ 5 ^ 5 := Nat.pow_le_pow_right (by omega) (by omega)
    have h4 : 5 ^ 5 = 3125 := by decide
    rw [hL]
    exact Nat.le_trans (len_allR n n []) (Nat.le_trans h2 (Nat.le_trans h3 (Nat.le_of_eq h4)))
  have hgood : ∀ i, i < L.length → Good n (rd_L1 L (i : Int)) := fun i hi => all_good n n [] _ ⟨(fun x hx => by cases hx), List.nodup_nil⟩ (by simp) (hL ▸ rdL_mem L i hi)
  have hne : ∀ i, i < L.length → rd_L1 L (i : Int) ≠ [] := fun i hi => by
    intro e
    have := (hgood i hi).1
    rw [e] at this
    simp at this; omega
  have he : ∀ i, i < L.length → Ev (fun k => salchowref36_End.f k (rd_L1 L (i : Int)) a b c) (endV a b c (rd_L1 L (i : Int))) := fun i hi => end_ev _ a b c n (hgood i hi) ha hb h1 (by omega)
  have loop : ∀ (m i j : Nat), i + m = L.length → j < L.length → Ev (fun k => salchowref36_Shortest.l0 k a b c L (j : Int) (i : Int)) ((L.drop i).foldl (upd a b c) (rd_L1 L (j : Int), endV a b c (rd_L1 L (j : Int)))) := by
    intro m
    induction m with
    | zero =>
      intro i j hi hj
      have e : L.drop i = [] := List.drop_of_length_le (by omega)
      rw [e]
      refine ev_round ?_
      simp only [salchowref36_Shortest.l0]
      exact ev_neg (by omega) (ev_pos (by omega) (ev_pos (by omega) (ev_call (he j hj) (ev_end rfl))))
    | succ m ih =>
      intro i j hi hj
      have hil : i < L.length := by omega
      have ew : wrap64 ((i : Int) + 1) = ((i + 1 : Nat) : Int) := wid (by omega) (by omega)
      have ed : L.drop i = rd_L1 L (i : Int) :: L.drop (i + 1) := by rw [List.drop_eq_getElem_cons hil, rdL_nat L i hil]
      rw [ed, List.foldl_cons]
      refine ev_round ?_
      simp only [salchowref36_Shortest.l0]
      refine ev_pos (by omega) (ev_pos (by omega) (ev_call (he i hil) (ev_pos (by omega) (ev_pos (by omega) (ev_call (he j hj) ?_)))))
      rw [ew]
      by_cases h : endV a b c (rd_L1 L (i : Int)) < endV a b c (rd_L1 L (j : Int))
      · have eu : upd a b c (rd_L1 L (j : Int), endV a b c (rd_L1 L (j : Int))) (rd_L1 L (i : Int)) = (rd_L1 L (i : Int), endV a b c (rd_L1 L (i : Int))) := by unfold upd; rw [if_pos (.inr h)]
        rw [eu]
        exact ev_pos h (ih (i + 1) i (by omega) hil)
      · have eu : upd a b c (rd_L1 L (j : Int), endV a b c (rd_L1 L (j : Int))) (rd_L1 L (i : Int)) = (rd_L1 L (j : Int), endV a b c (rd_L1 L (j : Int))) := by
          unfold upd; rw [if_neg (fun e => e.elim (hne j hj) h)]
        rw [eu]
        exact ev_neg h (ih (i + 1) j (by omega) hj)
  have hpos : 0 < L.length := by
    rw [hL]
    exact List.length_pos_iff.mpr (all_some n)
  simp only [salchowref36_Shortest.f, salchowref36_Assignments.f]
  have hx := extend_ev n h5 n [] h5 (by simp)
  rw [ha]
  have hA : Ev (fun k => (salchowref36_extend.f k ([] : List Int) (n : Int)).bind fun t278 => some t278) L := ev_call hx (ev_end hL.symm)
  refine ev_call hA ?_
  have h := loop L.length 0 0 (by omega) hpos
  have ed : L = rd_L1 L (0 : Nat) :: L.drop 1 := by
    have := List.drop_eq_getElem_cons hpos
    rw [List.drop_zero] at this
    rw [rdL_nat L 0 hpos]
    exact this
  have e1 : (L.drop 0).foldl (upd a b c) (rd_L1 L ((0 : Nat) : Int), endV a b c (rd_L1 L ((0 : Nat) : Int))) = (allR n n []).foldl (upd a b c) ([], 0) := by
    rw [← hL, List.drop_zero]
    generalize hp0 : rd_L1 L ((0 : Nat) : Int) = p0 at ed ⊢
    rw [ed, List.foldl_cons, List.foldl_cons]
    have u1 : upd a b c (p0, endV a b c p0) p0 = (p0, endV a b c p0) := by unfold upd; split <;> rfl
    have u2 : upd a b c ([], 0) p0 = (p0, endV a b c p0) := by unfold upd; rw [if_pos (.inl rfl)]
    rw [u1, u2]
  rw [e1] at h
  exact h
end Go.Proofs.Ytaodpgblleiiaaa.E
