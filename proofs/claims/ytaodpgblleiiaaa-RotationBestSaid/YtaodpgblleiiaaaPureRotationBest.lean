/- The end that Shortest returns is the one of its assignment in the timetable, and no other assignment ends before it. -/
import Derived.Test.YtaodpgblleiiaaaYd
import Derived.Test.YtaodpgblleiiaaaPx28
namespace Go.Proofs.Ytaodpgblleiiaaa.Pure
open Go.RowKit Go.Proofs.Ytaodpgblleiiaaa.P Go.Proofs.Ytaodpgblleiiaaa.E Go.Proofs.YtaodpgblleiiaaaW.PrintWords Go.Proofs.YtaodpgblleiiaaaW.PrintLast
set_option linter.unusedVariables false

theorem cyc_rows (n : Nat) : ∀ row ∈ cyc n, row.length = n := by
  intro row hr
  unfold cyc at hr
  obtain ⟨i, hi, e⟩ := List.mem_iff_getElem.mp hr
  rw [upto_get] at e
  rw [← e]; unfold cycRow; exact upto_len _ _
theorem best_l (a b : List Int) (c : Int) (p q : List Int) (fin : Int) (n : Nat) (ha : a.length = n) (hb : b.length = n) (h1 : 1 ≤ n) (h6 : n ≤ 6) (hp : E.Good n p) (hq : E.Good n q) (hr : Rng a b c) (hfin : endV a b c p = fin) (hle : fin ≤ endV a b c q) : ∀ (m i : Nat), i + m = n →
    Ev (fun k => salchowlaw36_RotationBest.l0 k a b c q (n : Int) p fin (cyc n) ((p.take i).map fun g => rd a g) ((q.take i).map fun g => rd a g) (i : Int)) true := by
  intro m
  induction m with
  | zero =>
    intro i hi
    obtain rfl : i = n := by omega
    have ep : p.take i = p := by rw [← hp.1]; exact List.take_length
    have eq : q.take i = q := by rw [← hq.1]; exact List.take_length
    rw [ep, eq]
    have hin : ∀ z : List Int, E.Good i z → InR 1000 (z.map fun g => rd a g) := by
      intro z hz x hx
      rw [List.mem_map] at hx
      obtain ⟨g, hg, rfl⟩ := hx
      have hb := hz.2.1 g hg
      have e : g = ((g.toNat : Nat) : Int) := (Int.toNat_of_nonneg hb.1).symm
      rw [e]
      exact hr.1 _ (rd_mem a g.toNat (by omega))
    have hT : ∀ z : List Int, E.Good i z → Ev (fun k => rotation_Timetable.f k (cyc i) (z.map fun g => rd a g) b c) (table_ (cyc i) (z.map fun g => rd a g) b c (i + 1), 0) := by
      intro z hz
      have h := timetable_ev (cyc i) (z.map fun g => rd a g) b c (by rw [cyc_len]; omega) (fun row hrow => by rw [cyc_rows i row hrow]; omega)
      rw [if_pos ⟨cyc_lat i (by omega), by rw [cyc_len, List.length_map]; exact hz.1, by rw [cyc_len]; exact hb⟩, if_pos ⟨hin z hz, hr.2⟩, cyc_len] at h
      exact h
    have w1 : wrap64 ((i : Int) + 1) = ((i + 1 : Nat) : Int) := wid (by omega) (by omega)
    obtain ⟨p1, p2⟩ := table_rd (cyc i) (p.map fun g => rd a g) b c i
    obtain ⟨q1, q2⟩ := table_rd (cyc i) (q.map fun g => rd a g) b c i
    have f1 : start_ (cyc i) (p.map fun g => rd a g) b c i = fin := by rw [← hfin]; unfold endV; rw [ha]
    have f2 : fin ≤ start_ (cyc i) (q.map fun g => rd a g) b c i := by unfold endV at hle; rw [ha] at hle; exact hle
    refine ev_round ?_
    simp only [salchowlaw36_RotationBest.l0]
    refine ev_neg (by omega) (ev_call (hT p hp) (ev_call (hT q hq) ?_))
    dsimp only
    rw [w1]
    refine ev_pos rfl (ev_pos rfl ?_)
    refine ev_pos (by omega) (ev_pos (by omega) (ev_pos (by omega) (ev_pos (by omega) (ev_pos (by rw [p2]; exact f1) (ev_pos (by omega) (ev_end ?_))))))
    rw [q2, decide_eq_true_iff]; exact f2
  | succ m ih =>
    intro i hi
    clear hfin hle
    have hip : i < p.length := by have := hp.1; omega
    have hiq : i < q.length := by have := hq.1; omega
    have r1 := hp.2.1 _ (rd_mem p i hip)
    have r2 := hq.2.1 _ (rd_mem q i hiq)
    have ew : wrap64 ((i : Int) + 1) = ((i + 1 : Nat) : Int) := wid (by omega) (by omega)
    have g1 : (i : Int) < (n : Int) := by omega
    have g3 : (i : Int) < (p.length : Int) := by omega
    have g4 : (i : Int) < (q.length : Int) := by omega
    have g5 : rd p (i : Int) < (a.length : Int) := by rw [ha]; exact r1.2
    have g6 : rd q (i : Int) < (a.length : Int) := by rw [ha]; exact r2.2
    have hi10 : i ≤ 10 := by omega
    have h := ih (i + 1) (by omega)
    rw [take_next p i hip, take_next q i hiq, List.map_append, List.map_append] at h
    have e1 : ((p.take i).map fun g => rd a g) ++ ([rd p (i : Int)].map fun g => rd a g) = ((p.take i).map fun g => rd a g) ++ [rd a (rd p (i : Int))] := rfl
    have e2 : ((q.take i).map fun g => rd a g) ++ ([rd q (i : Int)].map fun g => rd a g) = ((q.take i).map fun g => rd a g) ++ [rd a (rd q (i : Int))] := rfl
    rw [e1, e2, ← ew] at h
    clear ih e1 e2
    have L1 : ((p.take i).map fun g => rd a g).length < 17592186044416 := by rw [List.length_map, List.length_take]; exact Nat.lt_of_le_of_lt (Nat.le_trans (Nat.min_le_left _ _) hi10) (by decide)
    have L2 : ((q.take i).map fun g => rd a g).length < 17592186044416 := by rw [List.length_map, List.length_take]; exact Nat.lt_of_le_of_lt (Nat.le_trans (Nat.min_le_left _ _) hi10) (by decide)
    refine ev_round ?_
    simp only [salchowlaw36_RotationBest.l0]
    exact ev_pos g1 (ev_pos (Int.natCast_nonneg i) (ev_pos g3 (ev_pos r1.1 (ev_pos g5 (ev_pos L1 (ev_pos g4 (ev_pos r2.1 (ev_pos g6 (ev_pos L2 h)))))))))
theorem RotationBest : salchowlaw36_RotationBest.Pure := by
  intro l0 l1 a2 l3 _ _ _ hm1 hs1 _ _ _ _ _
  refine Ev.rounds (g := fun k => salchowlaw36_RotationBest.f k l0 l1 a2 l3) ?_
  simp only [salchowlaw36_RotationBest.f]
  have stop : Ev (fun k => salchowlaw36_RotationBest.j0 k l0 l1 a2 l3 (l0.length : Int) true) true := by
    refine ev_round ?_
    simp only [salchowlaw36_RotationBest.j0]
    exact ev_pos (by first | trivial | rfl) (ev_end rfl)
  refine ev_call awake_ev (ev_pos rfl (ev_ite (fun _ => stop) (fun h0 => ev_call (once_ev l3 l0.length (by omega)) ?_)))
  by_cases hq : E.Good l0.length l3
  rotate_left
  · rw [decide_eq_false hq]; exact stop
  rw [decide_eq_true hq]
  refine ev_round ?_
  simp only [salchowlaw36_RotationBest.j0]
  refine ev_neg (by decide) ?_
  by_cases c1 : l0.length = 0 ∨ l1.length ≠ l0.length
  · have hs : Ev (fun k => rotation_Shortest.f k l0 l1 a2) ([], 0, 1) := by
      unfold rotation_Shortest.f
      exact ev_pos c1 (ev_end rfl)
    exact ev_call hs (ev_neg (by decide) (ev_end rfl))
  have n0 : l0.length ≠ 0 := fun e => c1 (.inl e)
  have n1 : l1.length = l0.length := Classical.byContradiction fun e => c1 (.inr e)
  have hs := shortest_ev l0 l1 a2 (by omega) (by omega)
  rw [if_neg c1, if_neg (by omega)] at hs
  by_cases c3 : Rng l0 l1 a2
  rotate_left
  · rw [if_neg c3] at hs
    exact ev_call hs (ev_neg (by decide) (ev_end rfl))
  rw [if_pos c3] at hs
  obtain ⟨f1, _, f3⟩ := fold_least l0 l1 a2 (allR l0.length l0.length []) ([], 0) (all_ne _ (by omega)) (.inl rfl)
  obtain ⟨R, hR⟩ : ∃ R, R = (allR l0.length l0.length []).foldl (upd l0 l1 a2) ([], 0) := ⟨_, rfl⟩
  rw [← hR] at hs f1 f3
  have hfirst : R.1 ∈ allR l0.length l0.length [] ∧ R.2 = endV l0 l1 a2 R.1 := by
    rcases f3 with f3 | f3
    · exfalso
      obtain ⟨p, L, hL⟩ := List.exists_cons_of_ne_nil (all_some l0.length)
      rw [hL, List.foldl_cons] at hR
      have hp := all_ne l0.length (by omega) p (by rw [hL]; exact List.mem_cons_self)
      have u2 : upd l0 l1 a2 ([], 0) p = (p, endV l0 l1 a2 p) := by unfold upd; rw [if_pos (.inl rfl)]
      rw [u2] at hR
      obtain ⟨_, _, g3⟩ := fold_least l0 l1 a2 L (p, endV l0 l1 a2 p) (fun q hq => all_ne l0.length (by omega) q (by rw [hL]; exact List.mem_cons_of_mem _ hq)) (.inr rfl)
      rw [← hR, f3] at g3
      rcases g3 with g3 | ⟨g3, _⟩
      · exact hp (congrArg Prod.fst g3).symm
      · exact all_ne l0.length (by omega) [] (by rw [hL]; exact List.mem_cons_of_mem _ g3) rfl
    · exact f3
  have hpg := all_good l0.length l0.length [] R.1 ⟨(fun x hx => by cases hx), List.nodup_nil⟩ (by simp) hfirst.1
  have hq2 : l3 ∈ allR l0.length l0.length [] := by
    have h := good_all l0.length l3 [] (by rw [List.nil_append]; exact hq)
    rw [hq.1, List.nil_append] at h
    exact h
  have ho := once_ev R.1 l0.length (by omega)
  rw [decide_eq_true hpg] at ho
  refine ev_call hs (ev_pos rfl (ev_call (cyclic_ev l0.length (by omega)) (ev_pos rfl (ev_call ho ?_))))
  refine ev_round ?_
  simp only [salchowlaw36_RotationBest.j1]
  refine ev_neg (by decide) ?_
  exact best_l l0 l1 a2 R.1 l3 R.2 l0.length rfl n1 (by omega) (by omega) hpg hq c3 hfirst.2.symm (f1 l3 hq2) l0.length 0 (by omega)
end Go.Proofs.Ytaodpgblleiiaaa.Pure
