/- The cyclic and the balanced square are Latin squares; what a Latin square's rows and columns hold. -/
import Derived.Test.YtaodpgblleiiaaaPm
namespace Go.Proofs.Ytaodpgblleiiaaa.E
open Go.RowKit Go.Proofs.YtaodpgblleiiaaaW.PrintWords Go.Proofs.YtaodpgblleiiaaaW.PrintLast Go.Proofs.Ytaodpgblleiiaaa.P
set_option linter.unusedVariables false

theorem mod_two (x n : Nat) (h : x < 2 * n) : x % n = if x < n then x else x - n := by
  split
  · rename_i h1; exact Nat.mod_eq_of_lt h1
  · rename_i h1
    rw [Nat.mod_eq_sub_mod (by omega), Nat.mod_eq_of_lt (by omega)]
theorem mod_inj (a b c n : Nat) (ha : a < n) (hb : b < n) (h : (a + c) % n = (b + c) % n) : a = b := by
  have hc := Nat.mod_lt c (show 0 < n by omega)
  rw [Nat.add_mod a c, Nat.add_mod b c, Nat.mod_eq_of_lt ha, Nat.mod_eq_of_lt hb] at h
  generalize c % n = d at h hc
  rw [mod_two (a + d) n (by omega), mod_two (b + d) n (by omega)] at h
  split at h <;> split at h <;> omega
theorem upto_nodup (F : Nat → Int) (n : Nat) (h : ∀ a b, a < n → b < n → F a = F b → a = b) : (upto F n).Nodup := by
  unfold upto List.Nodup
  rw [List.pairwise_map]
  refine List.Pairwise.imp_of_mem ?_ List.nodup_range
  intro a b ha hb hne e
  exact hne (h a b (List.mem_range.mp ha) (List.mem_range.mp hb) e)
theorem upto_good (F : Nat → Nat) (n : Nat) (hr : ∀ a, a < n → F a < n) (h : ∀ a b, a < n → b < n → F a = F b → a = b) : Good n (upto (fun g => ((F g : Nat) : Int)) n) := by
  refine ⟨upto_len _ _, ?_, upto_nodup _ _ (fun a b ha hb e => h a b ha hb (by omega))⟩
  intro x hx
  unfold upto at hx
  obtain ⟨a, ha, rfl⟩ := List.mem_map.mp hx
  have := hr a (List.mem_range.mp ha)
  omega
theorem upto_rd (F : Nat → Int) (n j : Nat) (h : j < n) : rd (upto F n) (j : Int) = F j := by
  rw [rd_nat _ _ (by rw [upto_len]; exact h), upto_get]
theorem upto_rdL (F : Nat → List Int) (n j : Nat) (h : j < n) : rd_L1 (upto F n) (j : Int) = F j := by
  rw [rdL_nat _ _ (by rw [upto_len]; exact h), upto_get]
theorem col_upto (R : Nat → Nat → Int) (n m g : Nat) (hg : g < n) : col (upto (fun t => upto (R t) n) m) g = upto (fun t => R t g) m := by
  unfold col upto
  rw [List.map_map]
  refine List.map_congr_left (fun t _ => ?_)
  exact upto_rd (R t) n g hg
theorem lat_upto (R : Nat → Nat → Nat) (n : Nat) (hn : 0 < n) (hr : ∀ t g, t < n → g < n → R t g < n) (h1 : ∀ t a b, t < n → a < n → b < n → R t a = R t b → a = b)
    (h2 : ∀ g a b, g < n → a < n → b < n → R a g = R b g → a = b) : Lat (upto (fun t => upto (fun g => ((R t g : Nat) : Int)) n) n) := by
  unfold Lat
  rw [upto_len]
  refine ⟨?_, ?_, hn⟩
  · intro row hrow
    unfold upto at hrow
    obtain ⟨t, ht, rfl⟩ := List.mem_map.mp hrow
    have ht := List.mem_range.mp ht
    exact upto_good (R t) n (fun a ha => hr t a ht ha) (fun a b ha hb e => h1 t a b ht ha hb e)
  · intro g hg
    rw [col_upto (fun t g => ((R t g : Nat) : Int)) n n g hg]
    exact upto_good (fun t => R t g) n (fun a ha => hr a g ha hg) (fun a b ha hb e => h2 g a b hg ha hb e)
theorem cyc_lat (n : Nat) (hn : 0 < n) : Lat (cyc n) :=
  lat_upto (fun t g => (g + t) % n) n hn (fun t g ht hg => Nat.mod_lt _ hn) (fun t a b ht ha hb e => mod_inj a b t n ha hb e)
    (fun g a b hg ha hb e => mod_inj a b g n ha hb (by rw [Nat.add_comm a, Nat.add_comm b]; exact e))
theorem turn_is (n t : Nat) (h2 : n % 2 = 0) (ht : t < n) : turn n t = if t % 2 = 1 then (t + 1) / 2 else if t = 0 then 0 else n - t / 2 := by
  unfold turn
  split
  · rfl
  · split
    · rename_i h; subst h; simp
    · rw [Nat.mod_eq_of_lt (by omega)]
theorem turn_lt (n t : Nat) (h2 : n % 2 = 0) (ht : t < n) : turn n t < n := by
  rw [turn_is n t h2 ht]; split
  · omega
  · split <;> omega
theorem turn_inj (n a b : Nat) (h2 : n % 2 = 0) (ha : a < n) (hb : b < n) (e : turn n a = turn n b) : a = b := by
  rw [turn_is n a h2 ha, turn_is n b h2 hb] at e
  split at e <;> split at e <;> (try split at e) <;> (try split at e) <;> omega
theorem bal_lat (n : Nat) (hn : 0 < n) (h2 : n % 2 = 0) : Lat (bal n) :=
  lat_upto (fun t g => (turn n t + g) % n) n hn (fun t g ht hg => Nat.mod_lt _ hn)
    (fun t a b ht ha hb e => mod_inj a b (turn n t) n ha hb (by rw [Nat.add_comm a, Nat.add_comm b]; exact e))
    (fun g a b hg ha hb e => turn_inj n a b h2 ha hb (mod_inj _ _ g n (turn_lt n a h2 ha) (turn_lt n b h2 hb) e))

/-- No more than n numbers lie below n. -/
theorem below_len : ∀ (n : Nat) (l : List Int), l.Nodup → (∀ x ∈ l, 0 ≤ x ∧ x < (n : Int)) → l.length ≤ n
  | 0, l, _, h => by
    cases l with
    | nil => simp
    | cons a l => have := h a List.mem_cons_self; omega
  | n + 1, l, hd, h => by
    have h1 := below_len n (l.erase (n : Int)) (hd.sublist List.erase_sublist) (fun x hx => by
      have h2 := h x (List.mem_of_mem_erase hx)
      have h3 : x ≠ (n : Int) := fun e => by
        subst e
        exact (List.Nodup.not_mem_erase hd) hx
      omega)
    have h2 := List.length_erase (a := (n : Int)) (l := l)
    rw [h2] at h1
    split at h1 <;> omega
theorem good_mem (n : Nat) (l : List Int) (h : Good n l) (a : Nat) (ha : a < n) : (a : Int) ∈ l := by
  by_cases hm : (a : Int) ∈ l
  · exact hm
  · have h1 := below_len n ((a : Int) :: l) (List.nodup_cons.mpr ⟨hm, h.2.2⟩) (fun x hx => by
      rcases List.mem_cons.mp hx with rfl | hx
      · omega
      · exact h.2.1 x hx)
    have := h.1
    simp at h1
    omega
theorem good_count (n : Nat) (l : List Int) (h : Good n l) (a : Nat) (ha : a < n) : l.count (a : Int) = 1 := by
  have h1 : l.count (a : Int) ≤ 1 := List.nodup_iff_count.mp h.2.2 _
  have h2 := List.count_pos_iff.mpr (good_mem n l h a ha)
  omega
theorem nodup_rd (l : List Int) (h : l.Nodup) (i j : Nat) (hi : i < l.length) (hj : j < l.length) (e : rd l (i : Int) = rd l (j : Int)) : i = j := by
  rw [rd_nat l i hi, rd_nat l j hj] at e
  by_cases h1 : i = j
  · exact h1
  · rcases Nat.lt_or_gt_of_ne h1 with h2 | h2
    · exact absurd e ((List.pairwise_iff_getElem.mp h) i j hi hj h2)
    · exact absurd e.symm ((List.pairwise_iff_getElem.mp h) j i hj hi h2)
end Go.Proofs.Ytaodpgblleiiaaa.E
