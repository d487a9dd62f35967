/- In the cyclic and the balanced square every group is at every apparatus in exactly one rotation, and no two groups are at the same one in the same rotation. No condition. -/
import Derived.Test.YtaodpgblleiiaaaSl
import Derived.Test.YtaodpgblleiiaaaPx6
namespace Go.Proofs.Ytaodpgblleiiaaa.Pure
open Go.RowKit Go.Proofs.Ytaodpgblleiiaaa.P Go.Proofs.Ytaodpgblleiiaaa.E Go.Proofs.YtaodpgblleiiaaaW.PrintWords Go.Proofs.YtaodpgblleiiaaaW.PrintLast
set_option linter.unusedVariables false

theorem once_l1 (n g h a : Nat) (hn : n ≤ 64) (hg : g < n) (hh : h < n) (ha : a < n) (s : List (List Int)) (hs : s.length = n) (hl : Lat s) (x : Int)
    (ih : Ev (fun k => salchowlaw36_RotationOnce.l0 k n g h a (wrap64 (x + 1))) true) :
    ∀ t, t ≤ n → Ev (fun k => salchowlaw36_RotationOnce.l1 k n g h a x s ((((col s g).take t).count (a : Int) : Nat) : Int) (t : Int)) true := by
  refine down n ?_ ?_
  · have e : (col s g).take n = col s g := by rw [List.take_of_length_le]; rw [col_len]; omega
    have hc := good_count s.length (col s g) (hl.2.1 g (by omega)) a (by omega)
    rw [e, hc]
    refine ev_round ?_
    simp only [salchowlaw36_RotationOnce.l1]
    exact ev_neg (by omega) (ev_pos (by simp) ih)
  · intro t ht ih2
    refine ev_round ?_
    simp only [salchowlaw36_RotationOnce.l1]
    have hm := rdL_mem s t (by omega)
    have hrow := hl.1 _ hm
    have hle : ((col s g).take t).count (a : Int) ≤ 64 := by
      have h1 := List.count_le_length (a := (a : Int)) (l := (col s g).take t)
      rw [List.length_take] at h1; omega
    rw [col_next s g t (by omega), List.count_append] at ih2
    have hne : g ≠ h → rd (rd_L1 s (t : Int)) (g : Int) ≠ rd (rd_L1 s (t : Int)) (h : Int) := fun e1 e2 => e1 (nodup_rd _ hrow.2.2 g h (by have := hrow.1; omega) (by have := hrow.1; omega) e2)
    have hlen := hrow.1
    refine ev_pos (by omega) (ev_pos (by omega) (ev_pos (by omega) (ev_pos (by omega) (ev_pos (by omega) ?_))))
    rw [wid (x := (t : Int) + 1) (by omega) (by omega), wid (x := ((((col s g).take t).count (a : Int) : Nat) : Int) + 1) (by omega) (by omega)]
    by_cases e : rd (rd_L1 s (t : Int)) (g : Int) = (a : Int)
    · rw [e] at ih2
      have e3 : List.count (a : Int) [(a : Int)] = 1 := by simp
      rw [e3] at ih2
      refine ev_pos e (ev_ite (fun _ => ih2) (fun h1 => ev_pos (by omega) (ev_pos (by omega) (ev_neg ?_ ih2))))
      exact hne (by omega)
    · have e3 : List.count (a : Int) [rd (rd_L1 s (t : Int)) (g : Int)] = 0 := by
        rw [List.count_eq_zero]; simp; exact fun h => e h.symm
      rw [e3] at ih2
      refine ev_neg e (ev_ite (fun _ => ih2) (fun h1 => ev_pos (by omega) (ev_pos (by omega) (ev_neg ?_ ih2))))
      exact hne (by omega)

theorem cyc_small (n : Nat) (hn : n ≤ 64) : ∀ row ∈ cyc n, row.length ≤ 1000 := by
  intro x hx
  unfold cyc upto at hx
  obtain ⟨t, _, rfl⟩ := List.mem_map.mp hx
  unfold cycRow; rw [upto_len]; omega
theorem bal_small (n : Nat) (hn : n ≤ 64) : ∀ row ∈ bal n, row.length ≤ 1000 := by
  intro x hx
  unfold bal upto at hx
  obtain ⟨t, _, rfl⟩ := List.mem_map.mp hx
  unfold balRow; rw [upto_len]; omega

theorem RotationOnce : salchowlaw36_RotationOnce.Pure := by
  intro a0 a1 a2 a3 _ _ _ _
  refine Ev.rounds (g := fun k => salchowlaw36_RotationOnce.f k a0 a1 a2 a3) ?_
  have stop : Ev (fun k => salchowlaw36_RotationOnce.j0 k a0 a1 a2 a3 true) true := by
    refine ev_round ?_
    simp only [salchowlaw36_RotationOnce.j0]
    exact ev_pos (by simp) (ev_end rfl)
  simp only [salchowlaw36_RotationOnce.f]
  refine ev_call awake_ev (ev_pos rfl (ev_ite (fun _ => stop) (fun h1 => ev_ite (fun _ => stop) (fun h2 => ev_ite (fun _ => stop) (fun h3 => ev_ite (fun _ => stop) (fun h4 =>
    ev_ite (fun _ => stop) (fun h5 => ev_ite (fun _ => stop) (fun h6 => ev_ite (fun _ => stop) (fun h7 => ?_))))))))) 
  by_cases h8 : a3 ≥ a0
  · rw [decide_eq_true h8]; exact stop
  · rw [decide_eq_false h8]
    obtain ⟨n, rfl⟩ : ∃ n : Nat, a0 = n := ⟨a0.toNat, by omega⟩
    obtain ⟨g, rfl⟩ : ∃ n : Nat, a1 = n := ⟨a1.toNat, by omega⟩
    obtain ⟨h, rfl⟩ : ∃ n : Nat, a2 = n := ⟨a2.toNat, by omega⟩
    obtain ⟨a, rfl⟩ : ∃ n : Nat, a3 = n := ⟨a3.toNat, by omega⟩
    have hn : 1 ≤ n ∧ n ≤ 64 := by omega
    have end2 : Ev (fun k => salchowlaw36_RotationOnce.l0 k n g h a 2) true := by
      refine ev_round ?_
      simp only [salchowlaw36_RotationOnce.l0]
      exact ev_neg (by omega) (ev_end rfl)
    have e2 : Int.tmod (n : Int) 2 = ((n % 2 : Nat) : Int) := tmod_nat n 2
    have lc := latin_ev (cyc n) (by unfold cyc; rw [upto_len]; omega) (cyc_small n hn.2)
    rw [decide_eq_true (cyc_lat n (by omega))] at lc
    have end1 : Ev (fun k => salchowlaw36_RotationOnce.l0 k n g h a 1) true := by
      refine ev_round ?_
      simp only [salchowlaw36_RotationOnce.l0]
      refine ev_pos (by omega) (ev_call (cyclic_ev n hn) (ev_pos (by simp) ?_))
      by_cases hev : n % 2 = 0
      · refine ev_call (bal_ev n hn hev) (ev_round ?_)
        simp only [salchowlaw36_RotationOnce.j2]
        have lb := latin_ev (bal n) (by unfold bal; rw [upto_len]; omega) (bal_small n hn.2)
        rw [decide_eq_true (bal_lat n (by omega) hev)] at lb
        refine ev_pos (by simp) (ev_call lb (ev_pos (by simp) ?_))
        exact once_l1 n g h a hn.2 (by omega) (by omega) (by omega) (bal n) (upto_len _ _) (bal_lat n (by omega) hev) 1 (by rw [wid (by omega) (by omega)]; exact end2) 0 (by omega)
      · refine ev_call (bal_odd n hn (by omega)) (ev_round ?_)
        simp only [salchowlaw36_RotationOnce.j2]
        refine ev_neg (by simp) (ev_neg (by simp) (ev_neg (by omega) ?_))
        rw [wid (by omega) (by omega)]; exact end2
    refine ev_round ?_
    simp only [salchowlaw36_RotationOnce.j0]
    refine ev_neg (by simp) (ev_round ?_)
    simp only [salchowlaw36_RotationOnce.l0]
    refine ev_pos (by omega) (ev_call (cyclic_ev n hn) (ev_neg (by simp) (ev_round ?_)))
    simp only [salchowlaw36_RotationOnce.j2]
    refine ev_pos (by simp) (ev_call lc (ev_pos (by simp) ?_))
    exact once_l1 n g h a hn.2 (by omega) (by omega) (by omega) (cyc n) (upto_len _ _) (cyc_lat n (by omega)) 0 (by rw [wid (by omega) (by omega)]; exact end1) 0 (by omega)
end Go.Proofs.Ytaodpgblleiiaaa.Pure
