/- Inverting, adding up, missing; equality of lines and scripts; the program's side. -/
import Derived.Test.YtjmbkbnbepmhjaaAp
import Derived.Test.YtjmbkbnbepmhjaaPx20
import Derived.Test.YtjmbkbnbepmhjaaPx30
namespace Go.Proofs.Ytjmbkbnbepmhjaa.Pure
open Go.RowKit Go.Proofs.Ytjmbkbnbepmhjaa.P Go.Proofs.Ytjmbkbnbepmhjaa.E Go.Proofs.YtjmbkbnbepmhjaaW.PrintWords Go.Proofs.YtjmbkbnbepmhjaaW.PrintLast
set_option linter.unusedVariables false

theorem bad_op {s : S63} (h : bad s = false) : s.f0 = 1 ∨ s.f0 = 2 ∨ s.f0 = 3 ∨ s.f0 = 4 ∨ s.f0 = 5 := by
  unfold bad costI at h
  simp only [Bool.or_eq_false_iff, decide_eq_false_iff_not] at h
  have h0 := h.1
  by_cases h1 : s.f0 = 1
  · exact .inl h1
  by_cases h2 : s.f0 = 2
  · exact .inr (.inl h2)
  by_cases h4 : s.f0 = 4
  · exact .inr (.inr (.inr (.inl h4)))
  by_cases h5 : s.f0 = 5
  · exact .inr (.inr (.inr (.inr h5)))
  by_cases h3 : s.f0 = 3
  · exact .inr (.inr (.inl h3))
  rw [if_neg h1, if_neg h2, if_neg h4, if_neg h5, if_neg h3] at h0
  omega
theorem any_drop {s : List S63} (h : s.any bad = false) (j : Nat) (hj : j < s.length) : bad (rd_T63 s j) = false := by
  have e := drop63 s j hj
  have hm : rd_T63 s j ∈ s := List.mem_of_mem_drop (i := j) (by rw [e]; simp)
  rw [List.any_eq_false] at h
  simpa using h _ hm
def invertV (a : List S50) (s : List S63) : List S63 × Int := if fitsV a s = 0 then (invR s a, 0) else ([], fitsV a s)
theorem invert_ev (a : List S50) (s : List S63) : Ev (fun k => compare_Invert.f k a s) (invertV a s) := by
  unfold compare_Invert.f invertV
  refine ev_call (fits_ev a s) ?_
  refine ev_ite (fun h => ?_) (fun h => by rw [if_neg h]; exact ev_end rfl)
  rw [if_pos h]
  obtain ⟨ha, hs, hb, hf⟩ := fitsV_zero h
  have key : ∀ (i : Nat) (acc : List S63), acc.length ≤ 0 → i ≤ a.length → fitR (s.drop 0) (a.drop i) = 0 → Ev (fun k => compare_Invert.l0 k a acc (i : Int) s (s.length : Int) ((0 : Nat) : Int)) (acc ++ invR (s.drop 0) (a.drop i), 0) := by
    refine down (P := fun j => ∀ (i : Nat) (acc : List S63), acc.length ≤ j → i ≤ a.length → fitR (s.drop j) (a.drop i) = 0 → Ev (fun k => compare_Invert.l0 k a acc (i : Int) s (s.length : Int) (j : Int)) (acc ++ invR (s.drop j) (a.drop i), 0)) s.length ?_ ?_ 0 (by omega)
    · intro i acc hc hi hf
      refine ev_round ?_
      simp only [compare_Invert.l0, List.drop_length]
      refine ev_neg (by omega) ?_
      simp only [invR, List.append_nil]
      exact ev_end rfl
    · intro j hj ih i acc hc hi hf
      rw [drop63 s j hj] at hf ⊢
      refine ev_round ?_
      simp only [compare_Invert.l0]
      refine ev_pos (by omega) (ev_pos (by omega) (ev_pos (by omega) ?_))
      have uj := up1 j s.length hj (by omega)
      by_cases h4 : (rd_T63 s j).f0 = 4
      · refine ev_neg (by omega) (ev_round ?_)
        simp only [compare_Invert.j1]
        refine ev_neg (by simp [h4]) (ev_pos h4 (ev_pos (by omega) (ev_const rfl (ev_pos h4 ?_))))
        rw [fitR_ins _ _ h4] at hf
        rw [invR_ins _ _ h4, uj]
        have := ih i (acc ++ [⟨5, zit⟩]) (by simp; omega) hi hf
        rw [List.append_assoc] at this
        exact this
      obtain ⟨x, a', e, hf', h23⟩ := fitR_cases hf h4
      clear hf h23
      have hi' := drop_lt e
      rw [drop50 a i hi'] at e
      obtain ⟨rfl, rfl⟩ := List.cons.inj e
      rw [drop50 a i hi']
      have u := up1 i a.length hi' (by omega)
      by_cases h2 : (rd_T63 s j).f0 = 2
      · refine ev_pos h2 (ev_round ?_)
        simp only [compare_Invert.j1]
        refine ev_pos (by simp [h2]) (ev_pos (by omega) (ev_pos (by omega) (ev_pos (by omega) (ev_const rfl (ev_neg h4 ?_)))))
        rw [invR_two _ _ _ ⟨h4, by omega, by omega⟩, u, uj]
        have := ih (i + 1) (acc ++ [⟨(rd_T63 s j).f0, rd_T50 a i⟩]) (by simp; omega) (by omega) hf'
        rw [List.append_assoc] at this
        exact this
      refine ev_neg h2 (ev_round ?_)
      simp only [compare_Invert.j1]
      by_cases h3 : (rd_T63 s j).f0 = 3
      · refine ev_pos (by simp [h3]) (ev_pos (by omega) (ev_pos (by omega) (ev_pos (by omega) (ev_const rfl (ev_neg h4 ?_)))))
        rw [invR_two _ _ _ ⟨h4, by omega, by omega⟩, u, uj]
        have := ih (i + 1) (acc ++ [⟨(rd_T63 s j).f0, rd_T50 a i⟩]) (by simp; omega) (by omega) hf'
        rw [List.append_assoc] at this
        exact this
      refine ev_neg (by simp [h3]) (ev_neg h4 ?_)
      by_cases h5 : (rd_T63 s j).f0 = 5
      · refine ev_pos h5 (ev_pos (by omega) (ev_pos (by omega) (ev_pos (by omega) (ev_const rfl (ev_neg h4 ?_)))))
        rw [invR_del _ _ _ h5, u, uj]
        have := ih (i + 1) (acc ++ [⟨4, rd_T50 a i⟩]) (by simp; omega) (by omega) hf'
        rw [List.append_assoc] at this
        exact this
      have h1 : (rd_T63 s j).f0 = 1 := by
        have hop := bad_op (any_drop hb j hj)
        rcases hop with e | e | e | e | e
        · exact e
        · exact absurd e h2
        · exact absurd e h3
        · exact absurd e h4
        · exact absurd e h5
      refine ev_neg h5 (ev_pos (by omega) (ev_const rfl (ev_neg h4 ?_)))
      rw [invR_keep _ _ _ h1, u, uj]
      have := ih (i + 1) (acc ++ [⟨1, zit⟩]) (by simp; omega) (by omega) hf'
      rw [List.append_assoc] at this
      rw [h1]
      exact this
  exact key 0 [] (by simp) (by omega) hf
def totalV (s : List S63) : Int × Int := if checkV s = 0 then (totR s, 0) else (0, checkV s)
theorem costI_bd (op : Int) : -1 ≤ costI op ∧ costI op ≤ 3 := by
  unfold costI; repeat' split <;> try omega
theorem totR_bd : ∀ s : List S63, -(s.length : Int) ≤ totR s ∧ totR s ≤ 3 * (s.length : Int)
  | [] => by simp [totR]
  | x :: s => by have := totR_bd s; have := costI_bd x.f0; simp only [totR, List.length_cons]; push_cast; omega
theorem total_ev (s : List S63) : Ev (fun k => compare_Total.f k s) (totalV s) := by
  unfold compare_Total.f totalV
  refine ev_call (check_ev s) ?_
  refine ev_ite (fun h => ?_) (fun h => by rw [if_neg h]; exact ev_end rfl)
  rw [if_pos h]
  have hs := (checkV_zero h).1
  have key : ∀ n : Int, -1 * (0 : Nat) ≤ n ∧ n ≤ 3 * ((0 : Nat) : Int) → Ev (fun k => compare_Total.l0 k n s (s.length : Int) ((0 : Nat) : Int)) (n + totR (s.drop 0), 0) := by
    refine down (P := fun j => ∀ n : Int, -1 * (j : Int) ≤ n ∧ n ≤ 3 * (j : Int) → Ev (fun k => compare_Total.l0 k n s (s.length : Int) (j : Int)) (n + totR (s.drop j), 0)) s.length ?_ ?_ 0 (by omega)
    · intro n hn
      refine ev_round ?_
      simp only [compare_Total.l0, List.drop_length]
      refine ev_neg (by omega) ?_
      exact ev_end (by simp [totR])
    · intro j hj ih n hn
      refine ev_round ?_
      simp only [compare_Total.l0]
      refine ev_pos (by omega) (ev_pos (by omega) (ev_pos (by omega) (ev_call (cost_ev _) ?_)))
      have hc := costI_bd (rd_T63 s j).f0
      rw [up1 j s.length hj (by omega), drop63 s j hj, wid (by omega) (by omega)]
      have := ih (n + costI (rd_T63 s j).f0) (by omega)
      rw [Int.add_assoc] at this
      exact this
  have := key 0 (by omega)
  rw [Int.zero_add] at this
  exact this
def missV (s : List S63) : List Int × Int := if checkV s = 0 then (misR s 0, 0) else ([], checkV s)
theorem miss_ev (s : List S63) : Ev (fun k => compare_Missing.f k s) (missV s) := by
  unfold compare_Missing.f missV
  refine ev_call (check_ev s) ?_
  refine ev_ite (fun h => ?_) (fun h => by rw [if_neg h]; exact ev_end rfl)
  rw [if_pos h]
  have hs := (checkV_zero h).1
  have key : ∀ (i : Nat) (acc : List Int), i ≤ 0 → acc.length ≤ 0 → Ev (fun k => compare_Missing.l0 k acc (i : Int) s (s.length : Int) ((0 : Nat) : Int)) (acc ++ misR (s.drop 0) (i : Int), 0) := by
    refine down (P := fun j => ∀ (i : Nat) (acc : List Int), i ≤ j → acc.length ≤ j → Ev (fun k => compare_Missing.l0 k acc (i : Int) s (s.length : Int) (j : Int)) (acc ++ misR (s.drop j) (i : Int), 0)) s.length ?_ ?_ 0 (by omega)
    · intro i acc hi hc
      refine ev_round ?_
      simp only [compare_Missing.l0, List.drop_length]
      refine ev_neg (by omega) ?_
      exact ev_end (by simp [misR])
    · intro j hj ih i acc hi hc
      refine ev_round ?_
      simp only [compare_Missing.l0]
      refine ev_pos (by omega) (ev_pos (by omega) (ev_pos (by omega) ?_))
      rw [drop63 s j hj]
      have uj := up1 j s.length hj (by omega)
      have u : wrap64 ((i : Int) + 1) = ((i + 1 : Nat) : Int) := up1 i (i + 1) (by omega) (by omega)
      have put : (rd_T63 s j).f0 = 3 ∨ (rd_T63 s j).f0 = 5 → Ev (fun k => compare_Missing.j1 k acc (i : Int) s (s.length : Int) (j : Int) true ((rd_T63 s j).f0) ((rd_T63 s j).f1.f0) ((rd_T63 s j).f1.f1) ((rd_T63 s j).f1.f2) ((rd_T63 s j).f1.f3) ((rd_T63 s j).f1.f4)) (acc ++ misR (rd_T63 s j :: s.drop (j + 1)) (i : Int), 0) := by
        intro h35
        refine ev_round ?_
        simp only [compare_Missing.j1]
        refine ev_pos (by simp) (ev_pos (by omega) (ev_const rfl (ev_neg (by omega) ?_)))
        rw [u, uj, misR, if_pos h35, if_neg (by omega)]
        have := ih (i + 1) (acc ++ [(i : Int)]) (by omega) (by simp; omega)
        rw [List.append_assoc] at this
        exact this
      by_cases h3 : (rd_T63 s j).f0 = 3
      · exact ev_pos h3 (put (.inl h3))
      refine ev_neg h3 ?_
      by_cases h5 : (rd_T63 s j).f0 = 5
      · have e : ((rd_T63 s j).f0 == 5) = true := by simp [h5]
        rw [e]; exact put (.inr h5)
      have e : ((rd_T63 s j).f0 == 5) = false := by simp [h5]
      rw [e]
      refine ev_round ?_
      simp only [compare_Missing.j1]
      refine ev_neg (by simp) ?_
      rw [u, uj, misR, if_neg (by omega), List.nil_append]
      by_cases h4 : (rd_T63 s j).f0 = 4
      · rw [if_pos h4]; exact ev_pos h4 (ih i acc (by omega) (by omega))
      · rw [if_neg h4]; exact ev_neg h4 (ih (i + 1) acc (by omega) (by omega))
  have := key 0 [] (by omega) (by simp)
  exact this
instance (a b : List S50) : Decidable (Sames a b) := by unfold Sames; infer_instance
theorem ne_same (x y : S50) : (!(((x).f0).toList == ((y).f0).toList) || (!(x.f1 == y.f1) || (!(x.f2 == y.f2) || (!(x.f3 == y.f3) || (!(x.f4 == y.f4)))))) = !same x y := by
  unfold same; simp only [Bool.not_and]
theorem same_ev (a b : List S50) (ha : a.length ≤ 1000) : Ev (fun k => salchowref25_Same.f k a b) (decide (Sames a b)) := by
  unfold salchowref25_Same.f
  by_cases hl : a.length = b.length
  · refine ev_pos (by omega) ?_
    have key : ∀ p : Bool, (p = true ↔ (∀ i : Nat, 0 ≤ i → i < a.length → same (rd_T50 a i) (rd_T50 b i) = true)) → Ev (fun k => salchowref25_Same.l0 k a b ((0 : Nat) : Int)) p := by
      refine down (P := fun j => ∀ p : Bool, (p = true ↔ (∀ i : Nat, j ≤ i → i < a.length → same (rd_T50 a i) (rd_T50 b i) = true)) → Ev (fun k => salchowref25_Same.l0 k a b (j : Int)) p) a.length ?_ ?_ 0 (by omega)
      · intro p hp
        refine ev_round ?_
        simp only [salchowref25_Same.l0]
        refine ev_neg (by omega) (ev_end ?_)
        exact (hp.mpr (fun i h1 h2 => by omega)).symm
      · intro j hj ih p hp
        refine ev_round ?_
        simp only [salchowref25_Same.l0]
        refine ev_pos (by omega) (ev_pos (by omega) (ev_pos (by omega) ?_))
        rw [ne_same, up1 j a.length hj (by omega)]
        by_cases c : same (rd_T50 a j) (rd_T50 b j) = true
        · refine ev_neg (by simp [c]) (ih p (hp.trans ⟨fun h i h1 h2 => h i (by omega) h2, fun h i h1 h2 => ?_⟩))
          by_cases e : i = j
          · subst e; exact c
          · exact h i (by omega) h2
        · refine ev_pos (by simpa using c) (ev_end ?_)
          cases p with
          | false => rfl
          | true => exact absurd (hp.mp rfl j (by omega) hj) c
    exact key _ (by rw [decide_eq_true_iff]; exact ⟨fun h i _ hi => h.2 i hi, fun h => ⟨hl, fun i hi => h i (by omega) hi⟩⟩)
  · refine ev_neg (by omega) (ev_end ?_)
    rw [eq_comm, decide_eq_false_iff_not]
    exact fun h => hl h.1
theorem sames_refl (a : List S50) : Sames a a := ⟨rfl, fun i _ => same_refl _⟩
theorem sameSelf_ev (a : List S50) (ha : a.length ≤ 1000) : Ev (fun k => salchowref25_Same.f k a a) true := by
  have := same_ev a a ha
  rwa [decide_eq_true (sames_refl a)] at this
theorem sameSteps_ev (a : List S58) (ha : a.length ≤ 1000) : Ev (fun k => salchowref25_SameSteps.f k a a) true := by
  unfold salchowref25_SameSteps.f
  refine ev_pos rfl ?_
  have key : Ev (fun k => salchowref25_SameSteps.l0 k a a ((0 : Nat) : Int)) true := by
    refine down (P := fun j => Ev (fun k => salchowref25_SameSteps.l0 k a a (j : Int)) true) a.length ?_ ?_ 0 (by omega)
    · refine ev_round ?_
      simp only [salchowref25_SameSteps.l0]
      exact ev_neg (by omega) (ev_end rfl)
    · intro j hj ih
      refine ev_round ?_
      simp only [salchowref25_SameSteps.l0]
      refine ev_pos (by omega) (ev_pos (by omega) (ev_pos (by omega) (ev_neg (by simp) ?_)))
      rw [up1 j a.length hj (by omega)]; exact ih
  exact key
theorem sameInts_ev (a : List Int) (ha : a.length ≤ 1000) : Ev (fun k => salchowref05_Same.f k a a) true := by
  unfold salchowref05_Same.f
  refine ev_pos rfl ?_
  have key : Ev (fun k => salchowref05_Same.l0 k a a ((0 : Nat) : Int)) true := by
    refine down (P := fun j => Ev (fun k => salchowref05_Same.l0 k a a (j : Int)) true) a.length ?_ ?_ 0 (by omega)
    · refine ev_round ?_
      simp only [salchowref05_Same.l0]
      exact ev_neg (by omega) (ev_end rfl)
    · intro j hj ih
      refine ev_round ?_
      simp only [salchowref05_Same.l0]
      refine ev_pos (by omega) (ev_pos (by omega) (ev_pos (by omega) (ev_pos (by simp) ?_)))
      rw [up1 j a.length hj (by omega)]; exact ih
  exact key
def toRef (x : S63) : S58 := ⟨x.f0, x.f1⟩
def ofRef (x : S58) : S63 := ⟨x.f0, x.f1⟩
theorem theirs_ev (s : List S63) (hs : s.length ≤ 1000) : Ev (fun k => salchowlaw25_theirs.f k s) (s.map toRef) := by
  unfold salchowlaw25_theirs.f
  have key : ∀ acc : List S58, acc.length ≤ 0 → Ev (fun k => salchowlaw25_theirs.l0 k s acc ((0 : Nat) : Int)) (acc ++ (s.drop 0).map toRef) := by
    refine down (P := fun j => ∀ acc : List S58, acc.length ≤ j → Ev (fun k => salchowlaw25_theirs.l0 k s acc (j : Int)) (acc ++ (s.drop j).map toRef)) s.length ?_ ?_ 0 (by omega)
    · intro acc hc
      refine ev_round ?_
      simp only [salchowlaw25_theirs.l0, List.drop_length]
      exact ev_neg (by omega) (ev_end (by simp))
    · intro j hj ih acc hc
      refine ev_round ?_
      simp only [salchowlaw25_theirs.l0]
      refine ev_pos (by omega) (ev_pos (by omega) (ev_pos (by omega) ?_))
      rw [up1 j s.length hj (by omega), drop63 s j hj, List.map_cons]
      have := ih (acc ++ [toRef (rd_T63 s j)]) (by simp; omega)
      rw [List.append_assoc] at this
      exact this
  exact key [] (by simp)
theorem ours_ev (s : List S58) (hs : s.length ≤ 1000) : Ev (fun k => salchowlaw25_ours.f k s) (s.map ofRef) := by
  unfold salchowlaw25_ours.f
  have key : ∀ acc : List S63, acc.length ≤ 0 → Ev (fun k => salchowlaw25_ours.l0 k s acc ((0 : Nat) : Int)) (acc ++ (s.drop 0).map ofRef) := by
    refine down (P := fun j => ∀ acc : List S63, acc.length ≤ j → Ev (fun k => salchowlaw25_ours.l0 k s acc (j : Int)) (acc ++ (s.drop j).map ofRef)) s.length ?_ ?_ 0 (by omega)
    · intro acc hc
      refine ev_round ?_
      simp only [salchowlaw25_ours.l0, List.drop_length]
      exact ev_neg (by omega) (ev_end (by simp))
    · intro j hj ih acc hc
      refine ev_round ?_
      simp only [salchowlaw25_ours.l0]
      refine ev_pos (by omega) (ev_pos (by omega) (ev_pos (by omega) ?_))
      rw [up1 j s.length hj (by omega), drop58 s j hj, List.map_cons]
      have := ih (acc ++ [ofRef (rd_T58 s j)]) (by simp; omega)
      rw [List.append_assoc] at this
      exact this
  exact key [] (by simp)
theorem to_of (s : List S58) : (s.map ofRef).map toRef = s := by
  rw [List.map_map]; exact List.map_id'' (fun _ => rfl) s
end Go.Proofs.Ytjmbkbnbepmhjaa.Pure
