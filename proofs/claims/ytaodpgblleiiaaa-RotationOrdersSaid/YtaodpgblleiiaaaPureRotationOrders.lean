/- For all numbers Orders returns the specified orders or error, and in each multiple of k rotations all members have the same sum of positions. No condition. -/
import Derived.Test.YtaodpgblleiiaaaPo
namespace Go.Proofs.Ytaodpgblleiiaaa.Pure
open Go.RowKit Go.Proofs.Ytaodpgblleiiaaa.P Go.Proofs.Ytaodpgblleiiaaa.E Go.Proofs.YtaodpgblleiiaaaW.PrintWords Go.Proofs.YtaodpgblleiiaaaW.PrintLast
set_option linter.unusedVariables false

/-- The position of member m in order t. -/
def at_ (k m t : Nat) : Nat := (m + (k - t % k)) % k
def psum (k m : Nat) : Nat → Nat
  | 0 => 0
  | n + 1 => psum k m n + at_ k m n
theorem at_lt (k m t : Nat) (hk : 0 < k) : at_ k m t < k := Nat.mod_lt _ hk
theorem at_iff (k m t p : Nat) (hp : p < k) (hm : m < k) : (p + t) % k = m ↔ p = at_ k m t := by
  unfold at_
  have ht := Nat.mod_lt t (show 0 < k by omega)
  rw [Nat.add_mod p t k, Nat.mod_eq_of_lt hp]
  generalize t % k = r at ht
  rw [mod_two (p + r) k (by omega), mod_two (m + (k - r)) k (by omega)]
  split <;> split <;> omega
theorem at_succ (k m t : Nat) (hm : m + 1 < k) : at_ k (m + 1) (t + 1) = at_ k m t := by
  unfold at_
  have ht := Nat.mod_lt t (show 0 < k by omega)
  have e : (t + 1) % k = if t % k + 1 < k then t % k + 1 else 0 := by
    rw [Nat.add_mod t 1 k, Nat.mod_eq_of_lt (show 1 < k by omega), mod_two _ k (by omega)]
    split <;> omega
  rw [e]
  generalize t % k = r at ht
  split
  · congr 1; omega
  · have e1 : r = k - 1 := by omega
    subst e1
    rw [show m + (k - (k - 1)) = m + 1 by omega, show m + 1 + (k - 0) = m + 1 + k by omega, Nat.add_mod_right]
theorem psum_shift (k m : Nat) (hm : m + 1 < k) : ∀ n, psum k (m + 1) (n + 1) = at_ k (m + 1) 0 + psum k m n
  | 0 => by simp [psum]
  | n + 1 => by
    have ih := psum_shift k m hm n
    have e : psum k (m + 1) (n + 1 + 1) = psum k (m + 1) (n + 1) + at_ k (m + 1) (n + 1) := rfl
    have e2 : psum k m (n + 1) = psum k m n + at_ k m n := rfl
    rw [e, ih, at_succ k m n hm, e2]; omega
theorem psum_same (k n : Nat) (hk : 0 < k) (hn : n % k = 0) : ∀ m, m < k → psum k m n = psum k 0 n
  | 0, _ => rfl
  | m + 1, hm => by
    rw [← psum_same k n hk hn m (by omega)]
    cases n with
    | zero => rfl
    | succ n =>
      rw [psum_shift k m hm n]
      have e2 : psum k m (n + 1) = psum k m n + at_ k m n := rfl
      have e3 : at_ k (m + 1) 0 = at_ k m n := by
        rw [← at_succ k m n hm]
        unfold at_
        rw [hn]; simp
      rw [e2, e3]; omega
theorem psum_le (k m : Nat) (hk : 0 < k) : ∀ n, psum k m n ≤ n * k
  | 0 => by simp [psum]
  | n + 1 => by
    have := psum_le k m hk n
    have := at_lt k m n hk
    have e2 : psum k m (n + 1) = psum k m n + at_ k m n := rfl
    rw [e2, Nat.add_mul]; omega

theorem addTo_ord (k t m : Nat) (hk : k ≤ 64) (hm : m < k) (s : Nat) (hs : s ≤ 100000) : ∀ j, j ≤ k → addTo (ordRow k t) m j s = if at_ k m t < j then ((s + at_ k m t : Nat) : Int) else (s : Int)
  | 0, _ => by simp [addTo]
  | j + 1, hj => by
    have ih := addTo_ord k t m hk hm s hs j (by omega)
    have e : rd (ordRow k t) (j : Int) = (((j + t) % k : Nat) : Int) := upto_rd _ k j (by omega)
    have hi := at_iff k m t j (by omega) hm
    have ha := at_lt k m t (by omega)
    show (if rd (ordRow k t) (j : Int) = (m : Int) then _ else _) = _
    rw [e, ih]
    by_cases h : (j + t) % k = m
    · have h2 := hi.mp h
      rw [if_pos (by omega), if_neg (by omega), if_pos (by omega), wid (by omega) (by omega)]
      omega
    · have h2 : ¬ j = at_ k m t := fun e => h (hi.mpr e)
      rw [if_neg (by omega)]
      by_cases h3 : at_ k m t < j
      · rw [if_pos h3, if_pos (by omega)]
      · rw [if_neg h3, if_neg (by omega)]
theorem tot_ord (k n m : Nat) (hk : k ≤ 64) (hn : n ≤ 64) (hm : m < k) : ∀ i, i ≤ n → tot (ord k n) m i = ((psum k m i : Nat) : Int)
  | 0, _ => by simp [tot, psum]
  | i + 1, hi => by
    have ih := tot_ord k n m hk hn hm i (by omega)
    have e : rd_L1 (ord k n) (i : Int) = ordRow k i := upto_rdL _ n i (by omega)
    have hp := psum_le k m (by omega) i
    have ha := at_lt k m i (by omega)
    have hik : i * k ≤ 64 * 64 := Nat.mul_le_mul (by omega) hk
    show addTo (rd_L1 (ord k n) (i : Int)) m (rd_L1 (ord k n) (i : Int)).length (tot (ord k n) m i) = _
    rw [e, ih, addTo_ord k i m hk hm _ (by omega) _ (by unfold ordRow; rw [upto_len]; omega), if_pos (by unfold ordRow; rw [upto_len]; omega)]
    rfl
theorem ord_good (k t : Nat) (hk : 0 < k) : E.Good k (ordRow k t) :=
  upto_good (fun p => (p + t) % k) k (fun a _ => Nat.mod_lt _ hk) (fun a b ha hb e => mod_inj a b t k ha hb e)
theorem ord_ord (k n : Nat) (hk : 0 < k) (hn : 0 < n) : E.Ord (ord k n) := by
  have e : rd_L1 (ord k n) 0 = ordRow k 0 := upto_rdL _ n 0 hn
  have e2 : (ordRow k 0).length = k := upto_len _ _
  unfold E.Ord
  rw [e, e2]
  refine ⟨by unfold ord; rw [upto_len]; exact hn, hk, ?_⟩
  intro row hr
  unfold ord upto at hr
  obtain ⟨t, _, rfl⟩ := List.mem_map.mp hr
  exact ord_good k t hk
theorem ord_small (k n : Nat) (hk : k ≤ 64) : ∀ row ∈ ord k n, row.length ≤ 1000 := by
  intro x hx
  unfold ord upto at hx
  obtain ⟨t, _, rfl⟩ := List.mem_map.mp hx
  unfold ordRow; rw [upto_len]; omega

theorem RotationOrders : salchowlaw36_RotationOrders.Pure := by
  intro a0 a1 _ _
  refine Ev.rounds (g := fun k => salchowlaw36_RotationOrders.f k a0 a1) ?_
  simp only [salchowlaw36_RotationOrders.f]
  refine ev_call awake_ev (ev_pos rfl ?_)
  by_cases h : (1 ≤ a0 ∧ a0 ≤ 64) ∧ (1 ≤ a1 ∧ a1 ≤ 64)
  · obtain ⟨⟨h1, h2⟩, h3, h4⟩ := h
    obtain ⟨m, rfl⟩ : ∃ n : Nat, a0 = n := ⟨a0.toNat, by omega⟩
    obtain ⟨n, rfl⟩ : ∃ n : Nat, a1 = n := ⟨a1.toNat, by omega⟩
    have hm : 1 ≤ m ∧ m ≤ 64 := by omega
    have hn : 1 ≤ n ∧ n ≤ 64 := by omega
    refine ev_call (ord_ev m n hm hn) (ev_neg (by omega) (ev_neg (by omega) (ev_neg (by omega) (ev_round ?_))))
    simp only [salchowlaw36_RotationOrders.j0]
    have hc : Ev (fun k => salchowref36_SameRows.f k (ord m n) (ord m n)) true := sameRows_ev _ (by unfold ord; rw [upto_len]; omega) (fun x hx => by have := ord_small m n hm.2 x hx; omega)
    refine ev_neg (by simp; omega) (ev_pos (by simp) (ev_call (reford_ev m n hm hn) (ev_call hc (ev_round ?_))))
    simp only [salchowlaw36_RotationOrders.j1]
    have hp := positions_ev (ord m n) (by unfold ord; rw [upto_len]; omega) (ord_small m n hm.2)
    have e0 : rd_L1 (ord m n) 0 = ordRow m 0 := upto_rdL _ n 0 (by omega)
    have e1 : (ordRow m 0).length = m := upto_len _ _
    have e2 : (ord m n).length = n := upto_len _ _
    rw [if_pos (ord_ord m n (by omega) (by omega)), e0, e1, e2] at hp
    have hlen : (sums m (fun x => tot (ord m n) x n)).length = m := upto_len _ _
    refine ev_neg (by simp) (ev_call hp (ev_pos (by simp) (ev_round ?_)))
    simp only [salchowlaw36_RotationOrders.j2]
    rw [hlen]
    refine ev_neg (by simp) ?_
    have hrd : ∀ x : Nat, x < m → rd (sums m (fun x => tot (ord m n) x n)) (x : Int) = ((psum m x n : Nat) : Int) := fun x hx => by
      rw [show rd (sums m (fun x => tot (ord m n) x n)) (x : Int) = tot (ord m n) x n from upto_rd _ m x hx]
      exact tot_ord m n x hm.2 hn.2 hx n (Nat.le_refl n)
    have em : Int.tmod (n : Int) (m : Int) = ((n % m : Nat) : Int) := tmod_nat n m
    have key : ∀ j, j ≤ m → (1 ≤ j → Ev (fun k => salchowlaw36_RotationOrders.l0 k m n (sums m (fun x => tot (ord m n) x n)) (j : Int)) true) := by
      refine down m ?_ ?_
      · intro _
        refine ev_round ?_
        simp only [salchowlaw36_RotationOrders.l0]
        exact ev_neg (by omega) (ev_end rfl)
      · intro j hj ih hj1
        refine ev_round ?_
        simp only [salchowlaw36_RotationOrders.l0]
        have ih := ih (by omega)
        rw [wid (by omega) (by omega), em, hlen]
        refine ev_pos (by omega) (ev_neg (by omega) (ev_ite (fun hd => ev_pos (by omega) (ev_pos (by omega) (ev_pos (by omega) (ev_pos ?_ ih)))) (fun _ => ih)))
        have hd : n % m = 0 := by omega
        rw [hrd j hj, show (0 : Int) = ((0 : Nat) : Int) from rfl, hrd 0 (by omega), psum_same m n (by omega) hd j hj]
    exact key 1 hm.1 (by omega)
  · have stop : Ev (fun k => salchowlaw36_RotationOrders.j0 k a0 a1 [] 1 true) true := by
      refine ev_round ?_
      simp only [salchowlaw36_RotationOrders.j0]
      exact ev_pos (by simp) (ev_end rfl)
    refine ev_call (ord_no a0 a1 h) (ev_ite (fun _ => stop) (fun h1 => ev_ite (fun _ => stop) (fun h2 => ev_ite (fun _ => stop) (fun h3 => ?_))))
    have e : decide (a1 > 64) = true := decide_eq_true (by omega)
    rw [e]; exact stop
end Go.Proofs.Ytaodpgblleiiaaa.Pure
