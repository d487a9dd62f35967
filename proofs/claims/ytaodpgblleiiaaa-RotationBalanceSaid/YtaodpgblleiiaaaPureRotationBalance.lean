/- In the balanced square each apparatus follows each other one exactly once, in the cyclic one each apparatus is followed by the next one, n - 1 times; examined are n up to 24. -/
import Derived.Test.YtaodpgblleiiaaaCa
import Derived.Test.YtaodpgblleiiaaaPx14
namespace Go.Proofs.Ytaodpgblleiiaaa.Pure
open Go.RowKit Go.Proofs.Ytaodpgblleiiaaa.P Go.Proofs.Ytaodpgblleiiaaa.E Go.Proofs.YtaodpgblleiiaaaW.PrintWords Go.Proofs.YtaodpgblleiiaaaW.PrintLast
set_option linter.unusedVariables false

/-- A row that is turned by u. -/
def turned (n u : Nat) : List Int := upto (fun g => (((u + g) % n : Nat) : Int)) n
/-- The distance from u on to v. -/
def dist (n u v : Nat) : Nat := if u ≤ v then v - u else n + v - u
theorem turn_at (n u a g : Nat) (hu : u < n) (ha : a < n) (hg : g < n) : (u + g) % n = a ↔ g = dist n u a := by
  unfold dist
  rw [mod_two (u + g) n (by omega)]
  split <;> split <;> omega
theorem rowN_turned (n u v a b : Nat) (hu : u < n) (hv : v < n) (ha : a < n) (hb : b < n) : ∀ j, j ≤ n →
    rowN (turned n u) (turned n v) a b j = if dist n u a < j ∧ dist n u a = dist n v b then 1 else 0
  | 0, _ => by simp [rowN]
  | j + 1, hj => by
    have ih := rowN_turned n u v a b hu hv ha hb j (by omega)
    have e1 : rd (turned n u) (j : Int) = (((u + j) % n : Nat) : Int) := upto_rd _ n j (by omega)
    have e2 : rd (turned n v) (j : Int) = (((v + j) % n : Nat) : Int) := upto_rd _ n j (by omega)
    have h1 := turn_at n u a j hu ha (by omega)
    have h2 := turn_at n v b j hv hb (by omega)
    unfold rowN
    rw [ih, e1, e2]
    have e3 : ((((u + j) % n : Nat) : Int) = (a : Int) ∧ (((v + j) % n : Nat) : Int) = (b : Int)) ↔ (j = dist n u a ∧ j = dist n v b) := by
      rw [← h1, ← h2]; omega
    have e4 : (if (((u + j) % n : Nat) : Int) = (a : Int) ∧ (((v + j) % n : Nat) : Int) = (b : Int) then 1 else 0) = (if j = dist n u a ∧ j = dist n v b then 1 else 0) := by
      by_cases h : j = dist n u a ∧ j = dist n v b
      · rw [if_pos h, if_pos (e3.mpr h)]
      · rw [if_neg h, if_neg (fun hh => h (e3.mp hh))]
    rw [e4]
    generalize dist n u a = x at *
    generalize dist n v b = y at *
    clear ih e1 e2 h1 h2 e3 e4
    split <;> split <;> split <;> omega
theorem dist_lt (n u v : Nat) (hu : u < n) (hv : v < n) : dist n u v < n := by unfold dist; split <;> omega
theorem dist_same (n u v a b : Nat) (hu : u < n) (hv : v < n) (ha : a < n) (hb : b < n) : dist n u a = dist n v b ↔ dist n u v = dist n a b := by
  unfold dist
  split <;> split <;> split <;> split <;> omega

theorem cyc_rows (n t : Nat) (ht : t < n) : rd_L1 (cyc n) (t : Int) = turned n t := by
  rw [show rd_L1 (cyc n) (t : Int) = cycRow n t from upto_rdL _ n t ht]
  exact upto_congr _ _ n (fun g _ => by rw [Nat.add_comm g t])
theorem cyc_tot (n a b : Nat) (ha : a < n) (hb : b < n) : ∀ i, i + 1 ≤ n → totN (cyc n) a b i = if dist n a b = 1 then i else 0
  | 0, _ => by simp [totN]
  | i + 1, hi => by
    have ih := cyc_tot n a b ha hb i (by omega)
    unfold totN
    rw [ih, cyc_rows n i (by omega), cyc_rows n (i + 1) (by omega), show (cyc n).length = n from upto_len _ _, rowN_turned n i (i + 1) a b (by omega) (by omega) ha hb n (Nat.le_refl n)]
    have h1 := dist_lt n i a (by omega) ha
    have h2 := dist_same n i (i + 1) a b (by omega) (by omega) ha hb
    have h3 : dist n i (i + 1) = 1 := by unfold dist; split <;> omega
    by_cases h : dist n a b = 1
    · rw [if_pos h, if_pos h, if_pos ⟨h1, h2.mpr (by omega)⟩]
    · rw [if_neg h, if_neg h, if_neg (fun hh => h (by have := h2.mp hh.2; omega))]
theorem dist_one (n a b : Nat) (ha : a < n) (hb : b < n) (hn : 2 ≤ n) : dist n a b = 1 ↔ b = (a + 1) % n := by
  rw [mod_two (a + 1) n (by omega)]
  unfold dist
  split <;> split <;> omega

theorem bal_rows (n t : Nat) (ht : t < n) : rd_L1 (bal n) (t : Int) = turned n (turn n t) := by
  rw [show rd_L1 (bal n) (t : Int) = balRow n t from upto_rdL _ n t ht]
  rfl
theorem turn_step (n t : Nat) (h2 : n % 2 = 0) (ht : t + 1 < n) : dist n (turn n t) (turn n (t + 1)) = if t % 2 = 0 then t + 1 else n - (t + 1) := by
  rw [turn_is n t h2 (by omega), turn_is n (t + 1) h2 ht]
  unfold dist
  by_cases h : t % 2 = 0
  · rw [if_pos h]
    split <;> (try split) <;> (try split) <;> (try split) <;> omega
  · rw [if_neg h]
    split <;> (try split) <;> (try split) <;> (try split) <;> omega
/-- The passages so far in which the step is d. -/
theorem bal_tot (n a b : Nat) (h2 : n % 2 = 0) (ha : a < n) (hb : b < n) (hd : dist n a b ≠ 0) : ∀ i, i + 1 ≤ n →
    totN (bal n) a b i = if (if dist n a b % 2 = 1 then dist n a b else n - dist n a b) ≤ i then 1 else 0
  | 0, _ => by
    have := dist_lt n a b ha hb
    simp [totN]
    split <;> omega
  | i + 1, hi => by
    have ih := bal_tot n a b h2 ha hb hd i (by omega)
    unfold totN
    rw [ih, bal_rows n i (by omega), bal_rows n (i + 1) (by omega), show (bal n).length = n from upto_len _ _, rowN_turned n _ _ a b (turn_lt n i h2 (by omega)) (turn_lt n (i + 1) h2 (by omega)) ha hb n (Nat.le_refl n)]
    have h1 := dist_lt n (turn n i) a (turn_lt n i h2 (by omega)) ha
    have h3 := dist_same n _ _ a b (turn_lt n i h2 (by omega)) (turn_lt n (i + 1) h2 (by omega)) ha hb
    have h4 := turn_step n i h2 (by omega)
    have h5 := dist_lt n a b ha hb
    rw [h4] at h3
    have h7 : (dist n (turn n i) a < n ∧ dist n (turn n i) a = dist n (turn n (i + 1)) b) ↔ (if dist n a b % 2 = 1 then dist n a b else n - dist n a b) = i + 1 := by
      constructor
      · intro hh
        have h := h3.mp hh.2
        split at h <;> split <;> omega
      · intro hh
        refine ⟨h1, h3.mpr ?_⟩
        split at hh <;> split <;> omega
    have h8 : (if dist n (turn n i) a < n ∧ dist n (turn n i) a = dist n (turn n (i + 1)) b then 1 else 0) = (if (if dist n a b % 2 = 1 then dist n a b else n - dist n a b) = i + 1 then 1 else 0) := by
      by_cases h : (if dist n a b % 2 = 1 then dist n a b else n - dist n a b) = i + 1
      · rw [if_pos h, if_pos (h7.mpr h)]
      · rw [if_neg h, if_neg (fun hh => h (h7.mp hh))]
    rw [h8]
    generalize (if dist n a b % 2 = 1 then dist n a b else n - dist n a b) = x
    clear ih h3 h4 h7 h8
    split <;> split <;> split <;> omega
theorem bal_zero (n a : Nat) (h2 : n % 2 = 0) (ha : a < n) : ∀ i, i + 1 ≤ n → totN (bal n) a a i = 0
  | 0, _ => rfl
  | i + 1, hi => by
    have ih := bal_zero n a h2 ha i (by omega)
    unfold totN
    rw [ih, bal_rows n i (by omega), bal_rows n (i + 1) (by omega), show (bal n).length = n from upto_len _ _, rowN_turned n _ _ a a (turn_lt n i h2 (by omega)) (turn_lt n (i + 1) h2 (by omega)) ha ha n (Nat.le_refl n)]
    have h3 := dist_same n _ _ a a (turn_lt n i h2 (by omega)) (turn_lt n (i + 1) h2 (by omega)) ha ha
    have h4 := turn_step n i h2 (by omega)
    have h6 : dist n a a = 0 := by unfold dist; rw [if_pos (Nat.le_refl a)]; omega
    rw [if_neg]
    intro hh
    have := h3.mp hh.2
    rw [h4, h6] at this
    split at this <;> omega

theorem cyc_small (n : Nat) (hn : n ≤ 64) : ∀ row ∈ cyc n, row.length ≤ 1000 := by
  intro x hx
  unfold cyc upto at hx
  obtain ⟨t, _, rfl⟩ := List.mem_map.mp hx
  unfold cycRow; rw [upto_len]; omega
theorem bal_small (n : Nat) (hn : n ≤ 64) : ∀ row ∈ bal n, row.length ≤ 1000 := by
  intro x hx
  unfold bal upto at hx
  obtain ⟨t, _, rfl⟩ := List.mem_map.mp hx
  unfold balRow; rw [upto_len]; omega

theorem RotationBalance : salchowlaw36_RotationBalance.Pure := by
  intro a0 a1 a2 _ _ _
  refine Ev.rounds (g := fun k => salchowlaw36_RotationBalance.f k a0 a1 a2) ?_
  have stop : Ev (fun k => salchowlaw36_RotationBalance.j0 k a0 a1 a2 true) true := by
    refine ev_round ?_
    simp only [salchowlaw36_RotationBalance.j0]
    exact ev_pos (by simp) (ev_end rfl)
  simp only [salchowlaw36_RotationBalance.f]
  refine ev_call awake_ev (ev_pos rfl (ev_ite (fun _ => stop) (fun h1 => ev_ite (fun _ => stop) (fun h2 => ev_ite (fun _ => stop) (fun h3 => ev_ite (fun _ => stop) (fun h4 => ev_ite (fun _ => stop) (fun h5 => ?_)))))))
  by_cases h8 : a2 ≥ a0
  · rw [decide_eq_true h8]; exact stop
  · rw [decide_eq_false h8]
    obtain ⟨n, rfl⟩ : ∃ n : Nat, a0 = n := ⟨a0.toNat, by omega⟩
    obtain ⟨a, rfl⟩ : ∃ n : Nat, a1 = n := ⟨a1.toNat, by omega⟩
    obtain ⟨b, rfl⟩ : ∃ n : Nat, a2 = n := ⟨a2.toNat, by omega⟩
    have hn : 1 ≤ n ∧ n ≤ 64 := by omega
    have lc : (cyc n).length = n := upto_len _ _
    have lb : (bal n).length = n := upto_len _ _
    have hc := carry_ev (cyc n) (by omega) (cyc_small n hn.2)
    rw [if_pos (cyc_lat n (by omega))] at hc
    have em : Int.tmod (n : Int) 2 = ((n % 2 : Nat) : Int) := tmod_nat n 2
    have e1 : Int.tmod (wrap64 ((a : Int) + 1)) (n : Int) = (((a + 1) % n : Nat) : Int) := by
      rw [wid (by omega) (by omega), ← tmod_nat]; rfl
    have ccl : (carryM (cyc n)).length = n := by unfold carryM; rw [mat_len, lc]
    have ccr : (rd_L1 (carryM (cyc n)) (a : Int)).length = n := by unfold carryM; rw [lc, mat_row n _ a (by omega), upto_len]
    have cca : rd (rd_L1 (carryM (cyc n)) (a : Int)) (b : Int) = ((totN (cyc n) a b (n - 1) : Nat) : Int) := by unfold carryM; rw [lc]; exact mat_at n _ a b (by omega) (by omega)
    have ct := cyc_tot n a b (by omega) (by omega) (n - 1) (by omega)
    have fin : ∀ want : Int, want = ((totN (cyc n) a b (n - 1) : Nat) : Int) → Ev (fun k => salchowlaw36_RotationBalance.j2 k n a b (carryM (cyc n)) want) true := by
      intro want hw
      refine ev_round ?_
      simp only [salchowlaw36_RotationBalance.j2]
      refine ev_pos (by omega) (ev_pos (by omega) (ev_pos (by omega) (ev_pos (by omega) (ev_pos (by rw [cca, hw]) ?_))))
      by_cases hev : n % 2 = 0
      · have hb := carry_ev (bal n) (by omega) (bal_small n hn.2)
        rw [if_pos (bal_lat n (by omega) hev)] at hb
        have cbl : (carryM (bal n)).length = n := by unfold carryM; rw [mat_len, lb]
        have cbr : (rd_L1 (carryM (bal n)) (a : Int)).length = n := by unfold carryM; rw [lb, mat_row n _ a (by omega), upto_len]
        have cba : rd (rd_L1 (carryM (bal n)) (a : Int)) (b : Int) = ((totN (bal n) a b (n - 1) : Nat) : Int) := by unfold carryM; rw [lb]; exact mat_at n _ a b (by omega) (by omega)
        refine ev_call (bal_ev n hn hev) (ev_pos rfl (ev_call hb (ev_pos rfl (ev_round ?_))))
        simp only [salchowlaw36_RotationBalance.j3]
        refine ev_neg (by simp; omega) (ev_ite (fun h => ev_pos (by omega) (ev_pos (by omega) (ev_pos (by omega) (ev_pos (by omega) (ev_end ?_))))) (fun h => ev_pos (by omega) (ev_pos (by omega) (ev_pos (by omega) (ev_pos (by omega) (ev_end ?_))))))
        · have hab : b = a := by omega
          subst hab
          rw [cba, bal_zero n b hev (by omega) (n - 1) (by omega)]
          rfl
        · have hd : dist n a b ≠ 0 := by unfold dist; split <;> omega
          have hl := dist_lt n a b (by omega) (by omega)
          rw [cba, bal_tot n a b hev (by omega) (by omega) hd (n - 1) (by omega), if_pos (by split <;> omega)]
          rfl
      · refine ev_call (bal_odd n hn (by omega)) (ev_neg (by simp) (ev_pos (by simp) (ev_end ?_)))
        rw [beq_iff_eq]; omega
    refine ev_round ?_
    simp only [salchowlaw36_RotationBalance.j0]
    refine ev_neg (by simp) (ev_call (cyclic_ev n hn) (ev_call hc (ev_pos rfl (ev_round ?_))))
    simp only [salchowlaw36_RotationBalance.j1]
    rw [e1]
    refine ev_neg (by simp) (ev_neg (by omega) (ev_ite (fun h => fin _ ?_) (fun h => fin _ ?_)))
    · rw [wid (by omega) (by omega), ct]
      by_cases h2n : 2 ≤ n
      · rw [if_pos ((dist_one n a b (by omega) (by omega) h2n).mpr (by omega))]; omega
      · have : n - 1 = 0 := by omega
        rw [this]; split <;> omega
    · rw [ct]
      by_cases h2n : 2 ≤ n
      · rw [if_neg (fun hh => h (by have := (dist_one n a b (by omega) (by omega) h2n).mp hh; omega))]; rfl
      · have : n - 1 = 0 := by omega
        rw [this]; split <;> rfl
end Go.Proofs.Ytaodpgblleiiaaa.Pure
