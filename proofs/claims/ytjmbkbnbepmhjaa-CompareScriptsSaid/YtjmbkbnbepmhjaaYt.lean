/- The specification's table and script are the program's. -/
import Derived.Test.YtjmbkbnbepmhjaaYs
import Derived.Test.YtjmbkbnbepmhjaaPx24
namespace Go.Proofs.Ytjmbkbnbepmhjaa.Pure
open Go.RowKit Go.Proofs.Ytjmbkbnbepmhjaa.P Go.Proofs.Ytjmbkbnbepmhjaa.E Go.Proofs.YtjmbkbnbepmhjaaW.PrintWords Go.Proofs.YtjmbkbnbepmhjaaW.PrintLast
set_option linter.unusedVariables false

theorem dn1 (c n : Nat) (h : c ≤ n) (hn : n ≤ 1000) : wrap64 ((c : Int) - 1) = (c : Int) - 1 := wid (by omega) (by omega)
theorem rt_end (a b : List S50) (L : List (List Int)) (i : Nat) (r : List (List Int)) (hi : i ≤ 30) (h : Ev (fun k => salchowref25_Table.l0 k a b L ((i : Int) - 1)) r) : Ev (fun k => salchowref25_Table.l1 k a b L (i : Int) (-1)) r := by
  refine ev_round ?_
  simp only [salchowref25_Table.l1]
  rw [dn1 i 30 hi (by omega)]
  exact ev_neg (by omega) h
theorem rt_bottom (a b : List S50) (L : List (List Int)) (i c : Nat) (R : List Int) (r : List (List Int)) (hi : i = a.length) (hi30 : i ≤ 30) (hL : L.length = a.length + 1) (hR : rd_L6 L (i : Int) = R) (hRl : R.length = b.length + 1) (hc : c ≤ b.length) (hb : b.length ≤ 30)
    (h : Ev (fun k => salchowref25_Table.l1 k a b (L.set i (R.set c (2 * ((b.length : Int) - (c : Int))))) (i : Int) ((c : Int) - 1)) r) : Ev (fun k => salchowref25_Table.l1 k a b L (i : Int) (c : Int)) r := by
  refine ev_round ?_
  simp only [salchowref25_Table.l1]
  rw [hR, dn1 c 30 (by omega) (by omega), wid (x := (b.length : Int) - (c : Int)) (by omega) (by omega), wid (x := 2 * ((b.length : Int) - (c : Int))) (by omega) (by omega), Int.toNat_natCast, Int.toNat_natCast]
  exact ev_pos (by omega) (ev_pos (by omega) (ev_pos (by omega) (ev_pos (by omega) (ev_pos (by omega) (ev_pos (by omega) h)))))
theorem rt_right (a b : List S50) (L : List (List Int)) (i c : Nat) (R : List Int) (r : List (List Int)) (hi : i < a.length) (ha : a.length ≤ 30) (hL : L.length = a.length + 1) (hR : rd_L6 L (i : Int) = R) (hRl : R.length = b.length + 1) (hc : c = b.length) (hb : b.length ≤ 30)
    (h : Ev (fun k => salchowref25_Table.l1 k a b (L.set i (R.set c (2 * ((a.length : Int) - (i : Int))))) (i : Int) ((c : Int) - 1)) r) : Ev (fun k => salchowref25_Table.l1 k a b L (i : Int) (c : Int)) r := by
  refine ev_round ?_
  simp only [salchowref25_Table.l1]
  rw [hR, dn1 c 30 (by omega) (by omega), wid (x := (a.length : Int) - (i : Int)) (by omega) (by omega), wid (x := 2 * ((a.length : Int) - (i : Int))) (by omega) (by omega), Int.toNat_natCast, Int.toNat_natCast]
  exact ev_pos (by omega) (ev_neg (by omega) (ev_pos (by omega) (ev_pos (by omega) (ev_pos (by omega) (ev_pos (by omega) (ev_pos (by omega) h))))))
theorem rt_mid (a b : List S50) (L : List (List Int)) (i c : Nat) (R M : List Int) (op co n0 r1 n1 : Int) (r : List (List Int)) (hi : i < a.length) (ha : a.length ≤ 30) (hL : L.length = a.length + 1) (hR : rd_L6 L (i : Int) = R) (hM : rd_L6 L ((i + 1 : Nat) : Int) = M) (hRl : R.length = b.length + 1) (hMl : M.length = b.length + 1) (hc : c < b.length) (hb : b.length ≤ 30)
    (hop : opOf (rd_T50 a i) (rd_T50 b c) = op) (hco : costI op = co) (h1 : rd M (c : Int) = n0) (h2 : rd R ((c + 1 : Nat) : Int) = r1) (h3 : rd M ((c + 1 : Nat) : Int) = n1) (bo : 0 ≤ co ∧ co ≤ 10) (b1 : 0 ≤ n0 ∧ n0 ≤ 1000) (b2 : 0 ≤ r1 ∧ r1 ≤ 1000) (b3 : 0 ≤ n1 ∧ n1 ≤ 1000)
    (h : Ev (fun k => salchowref25_Table.l1 k a b (L.set i (R.set c (mn (mn (n0 + 2) (r1 + 2)) (n1 + co)))) (i : Int) ((c : Int) - 1)) r) : Ev (fun k => salchowref25_Table.l1 k a b L (i : Int) (c : Int)) r := by
  refine ev_round ?_
  simp only [salchowref25_Table.l1]
  rw [up1 i a.length hi (by omega), up1 c b.length hc (by omega), hR, hM, h1, h2, h3, dn1 c 30 (by omega) (by omega), wid (x := n0 + 2) (by omega) (by omega), wid (x := r1 + 2) (by omega) (by omega), Int.toNat_natCast, Int.toNat_natCast]
  refine ev_pos (by omega) (ev_neg (by omega) (ev_neg (by omega) (ev_pos (by omega) (ev_pos (by omega) (ev_pos (by omega) (ev_pos (by omega) (ev_pos (by omega) (ev_pos (by omega) (ev_pos (by omega) (ev_pos (by omega) (ev_pos (by omega) (ev_pos (by omega) (ev_pos (by omega) (ev_const (turn_is _ _) ?_))))))))))))))
  rw [hop]
  refine ev_call (refcost_ev op) ?_
  rw [hco, wid (x := n1 + co) (by omega) (by omega)]
  exact ev_pos (by omega) h
def drow (a b : List S50) (i : Nat) : List Int := (List.range (b.length + 1)).map fun k => Dik a b i k
def rowsF (a b : List S50) (m : Nat) : List (List Int) := (List.range (a.length + 1)).map fun j => if m ≤ j then drow a b j else []
def curF (a b : List S50) (i c : Nat) : List Int := (List.range (b.length + 1)).map fun k => if c ≤ k then Dik a b i k else 0
theorem map_set {α : Type} (F : Nat → α) (n i : Nat) (v : α) : ((List.range n).map F).set i v = (List.range n).map fun j => if j = i then v else F j := by
  apply List.ext_getElem?
  intro j
  rw [List.getElem?_set, List.getElem?_map, List.getElem?_map, List.length_map, List.length_range]
  by_cases hj : j < n
  · rw [List.getElem?_range hj]
    by_cases e : i = j
    · subst e; rw [if_pos rfl, if_pos hj]; simp
    · rw [if_neg e]; simp [Ne.symm e]
  · have e : (List.range n)[j]? = none := List.getElem?_eq_none (by simp; omega)
    rw [e]
    by_cases e2 : i = j
    · subst e2; rw [if_pos rfl, if_neg hj]; rfl
    · rw [if_neg e2]; rfl
theorem map_congr {α : Type} (F G : Nat → α) (n : Nat) (h : ∀ j, j < n → F j = G j) : (List.range n).map F = (List.range n).map G := by
  apply List.map_congr_left
  intro j hj
  exact h j (List.mem_range.mp hj)
theorem curF_set (a b : List S50) (i c : Nat) (v : Int) (hv : v = Dik a b i c) : (curF a b i (c + 1)).set c v = curF a b i c := by
  unfold curF
  rw [map_set]
  refine map_congr _ _ _ (fun j _ => ?_)
  by_cases e : j = c
  · subst e; rw [if_pos rfl, if_pos (Nat.le_refl _)]; exact hv
  · rw [if_neg e]
    by_cases h : c + 1 ≤ j
    · rw [if_pos h, if_pos (by omega)]
    · rw [if_neg h, if_neg (by omega)]
theorem rowsF_set (a b : List S50) (i : Nat) : (rowsF a b (i + 1)).set i (drow a b i) = rowsF a b i := by
  unfold rowsF
  rw [map_set]
  refine map_congr _ _ _ (fun j _ => ?_)
  by_cases e : j = i
  · subst e; rw [if_pos rfl, if_pos (Nat.le_refl _)]
  · rw [if_neg e]
    by_cases h : i + 1 ≤ j
    · rw [if_pos h, if_pos (by omega)]
    · rw [if_neg h, if_neg (by omega)]
theorem rd6_map (F : Nat → List Int) (n i : Nat) (hi : i < n) : rd_L6 ((List.range n).map F) (i : Int) = F i := by
  unfold rd_L6
  rw [Int.toNat_natCast, List.getD_eq_getElem?_getD, List.getElem?_map, List.getElem?_range hi]; rfl
theorem rd_map (F : Nat → Int) (n i : Nat) (hi : i < n) : rd ((List.range n).map F) (i : Int) = F i := by
  unfold rd
  rw [Int.toNat_natCast, List.getD_eq_getElem?_getD, List.getElem?_map, List.getElem?_range hi]; rfl
theorem Dik_mid (a b : List S50) (i c : Nat) (hi : i < a.length) (hc : c < b.length) : Dik a b i c = mn (mn (Dik a b (i + 1) c + 2) (Dik a b i (c + 1) + 2)) (Dik a b (i + 1) (c + 1) + costOf (opOf (rd_T50 a i) (rd_T50 b c))) := by
  have ea := drop50 a i hi
  have eb := drop50 b c hc
  have e1 : Dik a b i c = mn (mn (costOf (opOf (rd_T50 a i) (rd_T50 b c)) + Dik a b (i + 1) (c + 1)) (2 + Dik a b i (c + 1))) (2 + Dik a b (i + 1) c) := by
    unfold Dik
    rw [ea, eb, D_cons]
  rw [e1]
  generalize Dik a b (i + 1) (c + 1) = x
  generalize Dik a b i (c + 1) = y
  generalize Dik a b (i + 1) c = z
  generalize costOf (opOf (rd_T50 a i) (rd_T50 b c)) = u
  unfold mn
  split <;> split <;> split <;> split <;> omega
theorem reftable_ev (a b : List S50) (ha : a.length ≤ 30) (hb : b.length ≤ 30) : Ev (fun k => salchowref25_Table.f k a b) (TBL a b) := by
  have hrl : ∀ i, (drow a b i).length = b.length + 1 := fun i => by simp [drow]
  have hcl : ∀ i c, (curF a b i c).length = b.length + 1 := fun i c => by simp [curF]
  have hRl : ∀ m, (rowsF a b m).length = a.length + 1 := fun m => by simp [rowsF]
  have e0 : rowsF a b 0 = TBL a b := by
    unfold rowsF TBL drow
    exact map_congr _ _ _ (fun j _ => if_pos (Nat.zero_le _))
  have ec0 : ∀ i, curF a b i 0 = drow a b i := fun i => map_congr _ _ _ (fun j _ => if_pos (Nat.zero_le _))
  have ecz : ∀ i, List.replicate (b.length + 1) (0 : Int) = curF a b i (b.length + 1) := fun i => by
    unfold curF
    apply List.ext_getElem?
    intro j
    rw [List.getElem?_map]
    by_cases hj : j < b.length + 1
    · rw [List.getElem?_range hj, List.getElem?_replicate, if_pos hj]
      exact congrArg some (if_neg (show ¬ b.length + 1 ≤ j by omega)).symm
    · rw [List.getElem?_eq_none (by simp; omega), List.getElem?_eq_none (by simp; omega)]; rfl
  have get1 : ∀ (m i : Nat) (R : List Int), i ≤ a.length → rd_L6 ((rowsF a b m).set i R) (i : Int) = R := by
    intro m i R hi
    unfold rowsF
    rw [map_set, rd6_map _ _ _ (by omega), if_pos rfl]
  have get2 : ∀ (i : Nat) (R : List Int), i < a.length → rd_L6 ((rowsF a b (i + 1)).set i R) ((i + 1 : Nat) : Int) = drow a b (i + 1) := by
    intro i R hi
    unfold rowsF
    rw [map_set, rd6_map _ _ _ (by omega), if_neg (by omega), if_pos (Nat.le_refl _)]
  have inner : ∀ (i : Nat) (r : List (List Int)), i ≤ a.length → Ev (fun k => salchowref25_Table.l0 k a b (rowsF a b i) ((i : Int) - 1)) r → ∀ c, c ≤ b.length + 1 → Ev (fun k => salchowref25_Table.l1 k a b ((rowsF a b (i + 1)).set i (curF a b i c)) (i : Int) ((c : Int) - 1)) r := by
    intro i r hi hex c
    induction c with
    | zero =>
      intro _
      rw [ec0, rowsF_set]
      exact rt_end a b _ i r (by omega) hex
    | succ c ih =>
      intro hc
      have ih := ih (by omega)
      have ei : (((c + 1 : Nat) : Int) - 1) = (c : Int) := by omega
      rw [ei]
      have hset : ((rowsF a b (i + 1)).set i (curF a b i (c + 1))).length = a.length + 1 := by rw [List.length_set]; exact hRl _
      have next : ∀ v, v = Dik a b i c → Ev (fun k => salchowref25_Table.l1 k a b (((rowsF a b (i + 1)).set i (curF a b i (c + 1))).set i ((curF a b i (c + 1)).set c v)) (i : Int) ((c : Int) - 1)) r := by
        intro v hv
        rw [curF_set a b i c v hv, List.set_set]
        exact ih
      by_cases h1 : i = a.length
      · refine rt_bottom a b _ i c _ r h1 (by omega) hset (get1 _ _ _ hi) (hcl _ _) (by omega) hb (next _ ?_)
        rw [h1]; exact (Dik_bottom a b c (by omega)).symm
      · by_cases h2 : c = b.length
        · refine rt_right a b _ i c _ r (by omega) ha hset (get1 _ _ _ hi) (hcl _ _) h2 hb (next _ ?_)
          rw [h2]; exact (Dik_right a b i hi).symm
        · have il : i < a.length := by omega
          have cl : c < b.length := by omega
          have d1 := Dik_bd a b (i + 1) c ha hb
          have d2 := Dik_bd a b i (c + 1) ha hb
          have d3 := Dik_bd a b (i + 1) (c + 1) ha hb
          have cb := cost_bd (rd_T50 a i) (rd_T50 b c)
          have ec : costI (opOf (rd_T50 a i) (rd_T50 b c)) = costOf (opOf (rd_T50 a i) (rd_T50 b c)) := by
            rcases opOf_is (rd_T50 a i) (rd_T50 b c) with e | e | e <;> rw [e] <;> rfl
          have k1 : rd (drow a b (i + 1)) (c : Int) = Dik a b (i + 1) c := rd_map _ _ _ (by omega)
          have k2 : rd (curF a b i (c + 1)) ((c + 1 : Nat) : Int) = Dik a b i (c + 1) := by unfold curF; rw [rd_map _ _ _ (by omega), if_pos (Nat.le_refl _)]
          have k3 : rd (drow a b (i + 1)) ((c + 1 : Nat) : Int) = Dik a b (i + 1) (c + 1) := rd_map _ _ _ (by omega)
          have hm := Dik_mid a b i c il cl
          have le3 : ∀ {x : Int}, x ≤ 3 → x ≤ 10 := fun h => Int.le_trans h (by decide)
          have le120 : ∀ {x : Int}, x ≤ 120 → x ≤ 1000 := fun h => Int.le_trans h (by decide)
          exact rt_mid a b _ i c _ _ _ _ _ _ _ r il ha hset (get1 _ _ _ hi) (get2 _ _ il) (hcl _ _) (hrl _) cl hb rfl ec k1 k2 k3 ⟨cb.1, le3 cb.2⟩ ⟨d1.1, le120 d1.2⟩ ⟨d2.1, le120 d2.2⟩ ⟨d3.1, le120 d3.2⟩ (next _ hm.symm)
  have outer : ∀ m, m ≤ a.length + 1 → Ev (fun k => salchowref25_Table.l0 k a b (rowsF a b m) ((m : Int) - 1)) (TBL a b) := by
    intro m
    induction m with
    | zero =>
      intro _
      refine ev_round ?_
      simp only [salchowref25_Table.l0]
      exact ev_neg (by omega) (ev_end e0)
    | succ i ih =>
      intro hm
      have ei : (((i + 1 : Nat) : Int) - 1) = (i : Int) := by omega
      rw [ei]
      have w1 : wrap64 ((b.length : Int) + 1) = ((b.length + 1 : Nat) : Int) := wid (by omega) (by omega)
      have hlen := hRl (i + 1)
      have hin := inner i (TBL a b) (by omega) (ih (by omega)) (b.length + 1) (Nat.le_refl _)
      have eb : (((b.length + 1 : Nat) : Int) - 1) = (b.length : Int) := by omega
      rw [eb, ← ecz i] at hin
      clear ih inner get1 get2 ecz ec0 e0
      refine ev_round ?_
      simp only [salchowref25_Table.l0]
      rw [w1, Int.toNat_natCast, Int.toNat_natCast]
      exact ev_pos (by omega) (ev_pos (by omega) (ev_pos (by omega) (ev_pos (by omega) (ev_pos (by omega) hin))))
  have w1 : wrap64 ((a.length : Int) + 1) = ((a.length + 1 : Nat) : Int) := wid (by omega) (by omega)
  have es : List.replicate (a.length + 1) ([] : List Int) = rowsF a b (a.length + 1) := by
    unfold rowsF
    apply List.ext_getElem?
    intro j
    rw [List.getElem?_map]
    by_cases hj : j < a.length + 1
    · rw [List.getElem?_range hj, List.getElem?_replicate, if_pos hj]
      exact congrArg some (if_neg (show ¬ a.length + 1 ≤ j by omega)).symm
    · rw [List.getElem?_eq_none (by simp; omega), List.getElem?_eq_none (by simp; omega)]; rfl
  have ho := outer (a.length + 1) (Nat.le_refl _)
  have ea : (((a.length + 1 : Nat) : Int) - 1) = (a.length : Int) := by omega
  rw [ea, ← es] at ho
  clear inner get1 get2 ecz ec0 e0 outer
  unfold salchowref25_Table.f
  rw [w1, Int.toNat_natCast]
  exact ev_pos (by omega) (ev_pos (by omega) ho)

theorem r0_at (a b : List S50) (t : List (List Int)) (acc : List S58) (i j : Nat) (r : List S58 × Int) (hij : i < a.length ∨ j < b.length) (h : Ev (fun k => salchowref25_Script.j3 k a b t acc (i : Int) (j : Int) (decide (i < a.length ∧ j < b.length))) r) : Ev (fun k => salchowref25_Script.l0 k a b t acc (i : Int) (j : Int)) r := by
  have go : Ev (fun k => salchowref25_Script.j2 k a b t acc (i : Int) (j : Int) true) r := by
    refine ev_round ?_
    simp only [salchowref25_Script.j2]
    refine ev_pos (by simp) ?_
    by_cases hi : i < a.length
    · refine ev_pos (by omega) ?_
      have e : decide ((j : Int) < (b.length : Int)) = decide (i < a.length ∧ j < b.length) := by
        by_cases hj : j < b.length
        · rw [decide_eq_true (show i < a.length ∧ j < b.length from ⟨hi, hj⟩), decide_eq_true (show (j : Int) < (b.length : Int) by omega)]
        · rw [decide_eq_false (show ¬ (i < a.length ∧ j < b.length) from fun h => hj h.2), decide_eq_false (show ¬ (j : Int) < (b.length : Int) by omega)]
      rw [e]; exact h
    · refine ev_neg (by omega) ?_
      rw [decide_eq_false (show ¬ (i < a.length ∧ j < b.length) from fun h => hi h.1)] at h
      exact h
  refine ev_round ?_
  simp only [salchowref25_Script.l0]
  by_cases hi : i < a.length
  · exact ev_pos (by omega) go
  · have hj : j < b.length := hij.resolve_left hi
    refine ev_neg (by omega) ?_
    rw [decide_eq_true (show (j : Int) < (b.length : Int) by omega)]
    exact go
theorem r0_end (a b : List S50) (t : List (List Int)) (acc : List S58) (i j : Nat) (hi : ¬ i < a.length) (hj : ¬ j < b.length) : Ev (fun k => salchowref25_Script.l0 k a b t acc (i : Int) (j : Int)) (acc, 0) := by
  refine ev_round ?_
  simp only [salchowref25_Script.l0]
  rw [decide_eq_false (show ¬ (j : Int) < (b.length : Int) by omega)]
  refine ev_neg (by omega) (ev_round ?_)
  simp only [salchowref25_Script.j2]
  exact ev_neg (by simp) (ev_end rfl)
/-- Behind the test for an item that is taken over. -/
theorem r3_no (a b : List S50) (t : List (List Int)) (acc : List S58) (i j : Nat) (v v' : Int) (r : List S58 × Int) (ha : a.length ≤ 30) (hb : b.length ≤ 30) (hi : i ≤ 30) (hc : acc.length ≤ 60) (ht : i < t.length) (m : List Int) (hm : rd_L6 t (i : Int) = m) (hl : m.length = b.length + 1)
    (hv : j < b.length → rd m (j : Int) = v ∧ rd m ((j + 1 : Nat) : Int) = v' ∧ 0 ≤ v' ∧ v' ≤ 1000)
    (h1 : j < b.length → v = 2 + v' → Ev (fun k => salchowref25_Script.l0 k a b t (acc ++ [⟨4, rd_T50 b j⟩]) (i : Int) ((j + 1 : Nat) : Int)) r)
    (h2 : (j < b.length → v ≠ 2 + v') → Ev (fun k => salchowref25_Script.l0 k a b t (acc ++ [⟨5, zit⟩]) ((i + 1 : Nat) : Int) (j : Int)) r) : Ev (fun k => salchowref25_Script.j3 k a b t acc (i : Int) (j : Int) false) r := by
  have wi : wrap64 ((i : Int) + 1) = ((i + 1 : Nat) : Int) := wid (by omega) (by omega)
  refine ev_round ?_
  simp only [salchowref25_Script.j3]
  rw [wi]
  refine ev_neg (by simp) ?_
  by_cases hj : j < b.length
  · obtain ⟨e1, e2, b0, b1⟩ := hv hj
    rw [hm, up1 j b.length hj (by omega), e1, e2, wid (x := v' + 2) (by omega) (by omega)]
    refine ev_pos (by omega) (ev_pos (by omega) (ev_pos (by omega) (ev_pos (by omega) (ev_pos (by omega) (ev_pos (by omega) (ev_pos (by omega) ?_))))))
    by_cases e : v = 2 + v'
    · exact ev_pos (by omega) (ev_pos (by omega) (h1 hj e))
    · exact ev_neg (by omega) (ev_pos (by omega) (h2 (fun _ => e)))
  · exact ev_neg (by omega) (ev_pos (by omega) (h2 (fun h => absurd h hj)))
theorem r3_at (a b : List S50) (t : List (List Int)) (acc : List S58) (i j : Nat) (v u c v' : Int) (op : Int) (r : List S58 × Int) (hi : i < a.length) (hj : j < b.length) (ha : a.length ≤ 30) (hb : b.length ≤ 30) (hc : acc.length ≤ 60) (ht : i + 1 < t.length)
    (m m' : List Int) (hm : rd_L6 t (i : Int) = m) (hm' : rd_L6 t ((i + 1 : Nat) : Int) = m') (hl : m.length = b.length + 1) (hl' : m'.length = b.length + 1)
    (hop : opOf (rd_T50 a i) (rd_T50 b j) = op) (hcost : costI op = c) (c0 : 0 ≤ c) (c1 : c ≤ 10) (hv : rd m (j : Int) = v) (hu : rd m' ((j + 1 : Nat) : Int) = u) (b0 : 0 ≤ u) (b1 : u ≤ 1000) (hv' : rd m ((j + 1 : Nat) : Int) = v') (b2 : 0 ≤ v') (b3 : v' ≤ 1000)
    (h1 : v = c + u → Ev (fun k => salchowref25_Script.l0 k a b t (acc ++ [if op = 1 then ⟨op, zit⟩ else ⟨op, rd_T50 b j⟩]) ((i + 1 : Nat) : Int) ((j + 1 : Nat) : Int)) r)
    (h2 : v ≠ c + u → v = 2 + v' → Ev (fun k => salchowref25_Script.l0 k a b t (acc ++ [⟨4, rd_T50 b j⟩]) (i : Int) ((j + 1 : Nat) : Int)) r)
    (h3 : v ≠ c + u → v ≠ 2 + v' → Ev (fun k => salchowref25_Script.l0 k a b t (acc ++ [⟨5, zit⟩]) ((i + 1 : Nat) : Int) (j : Int)) r) : Ev (fun k => salchowref25_Script.j3 k a b t acc (i : Int) (j : Int) true) r := by
  refine ev_round ?_
  simp only [salchowref25_Script.j3]
  refine ev_pos (by simp) (ev_pos (by omega) (ev_pos (by omega) (ev_pos (by omega) (ev_pos (by omega) (ev_const (turn_is _ _) ?_)))))
  rw [hop, hm, up1 i a.length hi (by omega), up1 j b.length hj (by omega), hm', hv, hu, hv', wid (x := v' + 2) (by omega) (by omega)]
  refine ev_pos (by omega) (ev_pos (by omega) (ev_pos (by omega) (ev_pos (by omega) (ev_pos (by omega) (ev_pos (by omega) (ev_call (refcost_ev op) ?_))))))
  rw [hcost, wid (x := u + c) (by omega) (by omega)]
  by_cases e : v = c + u
  · refine ev_pos (by omega) ?_
    have h := h1 e
    by_cases e1 : op = 1
    · rw [if_pos e1] at h
      exact ev_pos e1 (ev_pos (by omega) h)
    · rw [if_neg e1] at h
      exact ev_neg e1 (ev_pos (by omega) h)
  · refine ev_neg (by omega) (ev_pos (by omega) ?_)
    by_cases e2 : v = 2 + v'
    · exact ev_pos (by omega) (ev_pos (by omega) (h2 e e2))
    · exact ev_neg (by omega) (ev_pos (by omega) (h3 e e2))
theorem refkey_ev (a b : List S50) (ha : a.length ≤ 30) (hb : b.length ≤ 30) : ∀ (n i j : Nat) (acc : List S58), (a.length - i) + (b.length - j) ≤ n → i ≤ a.length → j ≤ b.length → acc.length ≤ i + j →
    Ev (fun k => salchowref25_Script.l0 k a b (TBL a b) acc (i : Int) (j : Int)) (acc ++ (scrR (a.drop i) (b.drop j)).map toRef, 0) := by
  obtain ⟨t, htt⟩ : ∃ t, t = TBL a b := ⟨_, rfl⟩
  have htl : t.length = a.length + 1 := by have := tbl_len a b; rw [htt]; omega
  have hrow : ∀ i : Nat, i ≤ a.length → ∃ m, rd_L6 t (i : Int) = m ∧ m.length = b.length + 1 ∧ ∀ j : Nat, j ≤ b.length → rd m (j : Int) = Dik a b i j := by
    intro i hi
    refine ⟨_, rfl, ?_, fun j hj => ?_⟩
    · have := tbl_row_len a b i hi; rw [htt]; omega
    · rw [htt]; exact tbl_at a b i j hi hj
  rw [← htt]
  clear htt
  have le120 : ∀ {x : Int}, x ≤ 120 → x ≤ 1000 := fun h => Int.le_trans h (by decide)
  intro n
  induction n with
  | zero =>
    intro i j acc hn hi hj hc
    have e1 : a.drop i = [] := List.drop_of_length_le (by omega)
    have e2 : b.drop j = [] := List.drop_of_length_le (by omega)
    rw [e1, e2, scrR, List.map_nil, List.append_nil]
    exact r0_end a b t acc i j (by omega) (by omega)
  | succ n ih =>
    intro i j acc hn hi hj hc
    have del : i < a.length → Ev (fun k => salchowref25_Script.l0 k a b t (acc ++ [⟨5, zit⟩]) ((i + 1 : Nat) : Int) (j : Int)) (acc ++ (⟨5, zit⟩ :: scrR (a.drop (i + 1)) (b.drop j)).map toRef, 0) := by
      intro hi'
      have h := ih (i + 1) j (acc ++ [⟨5, zit⟩]) (by omega) (by omega) hj (by simp; omega)
      rw [List.append_assoc] at h
      exact h
    have ins : j < b.length → Ev (fun k => salchowref25_Script.l0 k a b t (acc ++ [⟨4, rd_T50 b j⟩]) (i : Int) ((j + 1 : Nat) : Int)) (acc ++ (⟨4, rd_T50 b j⟩ :: scrR (a.drop i) (b.drop (j + 1))).map toRef, 0) := by
      intro hj'
      have h := ih i (j + 1) (acc ++ [⟨4, rd_T50 b j⟩]) (by omega) hi (by omega) (by simp; omega)
      rw [List.append_assoc] at h
      exact h
    by_cases hi' : i < a.length
    · refine r0_at a b t acc i j _ (.inl hi') ?_
      by_cases hj' : j < b.length
      · rw [decide_eq_true (show i < a.length ∧ j < b.length from ⟨hi', hj'⟩)]
        obtain ⟨m, hm, hl, hat⟩ := hrow i hi
        obtain ⟨m', hm', hl', hat'⟩ := hrow (i + 1) hi'
        have bd1 := Dik_bd a b (i + 1) (j + 1) ha hb
        have bd2 := Dik_bd a b i (j + 1) ha hb
        have cb := cost_bd (rd_T50 a i) (rd_T50 b j)
        have ec : costI (opOf (rd_T50 a i) (rd_T50 b j)) = costOf (opOf (rd_T50 a i) (rd_T50 b j)) := by
          rcases opOf_is (rd_T50 a i) (rd_T50 b j) with e | e | e <;> rw [e] <;> rfl
        have ea := drop50 a i hi'
        have eb := drop50 b j hj'
        have eD : Dik a b i j = D (rd_T50 a i :: a.drop (i + 1)) (rd_T50 b j :: b.drop (j + 1)) := by unfold Dik; rw [ea, eb]
        have eD1 : Dik a b i (j + 1) = D (rd_T50 a i :: a.drop (i + 1)) (b.drop (j + 1)) := by unfold Dik; rw [ea]
        rw [ea, eb, scrR]
        refine r3_at a b t acc i j _ _ _ _ _ _ hi' hj' ha hb (by omega) (by omega) m m' hm hm' hl hl' rfl ec cb.1 (Int.le_trans cb.2 (by decide)) (hat j hj) (hat' (j + 1) hj') bd1.1 (le120 bd1.2) (hat (j + 1) hj') bd2.1 (le120 bd2.2) (fun c1 => ?_) (fun c1 c2 => ?_) (fun c1 c2 => ?_)
        · have c1' : D (rd_T50 a i :: a.drop (i + 1)) (rd_T50 b j :: b.drop (j + 1)) = costOf (opOf (rd_T50 a i) (rd_T50 b j)) + D (a.drop (i + 1)) (b.drop (j + 1)) := by rw [← eD]; exact c1
          rw [if_pos c1']
          have h := ih (i + 1) (j + 1) (acc ++ [toRef (stepOf (rd_T50 a i) (rd_T50 b j))]) (by omega) (by omega) (by omega) (by simp; omega)
          rw [List.append_assoc] at h
          have es : (if opOf (rd_T50 a i) (rd_T50 b j) = 1 then (⟨opOf (rd_T50 a i) (rd_T50 b j), zit⟩ : S58) else ⟨opOf (rd_T50 a i) (rd_T50 b j), rd_T50 b j⟩) = toRef (stepOf (rd_T50 a i) (rd_T50 b j)) := by
            unfold stepOf toRef
            by_cases c : opOf (rd_T50 a i) (rd_T50 b j) = 1
            · rw [if_pos c, if_pos c, c]
            · rw [if_neg c, if_neg c]
          rw [es]; exact h
        · have c1' : ¬ D (rd_T50 a i :: a.drop (i + 1)) (rd_T50 b j :: b.drop (j + 1)) = costOf (opOf (rd_T50 a i) (rd_T50 b j)) + D (a.drop (i + 1)) (b.drop (j + 1)) := by rw [← eD]; exact c1
          have c2' : D (rd_T50 a i :: a.drop (i + 1)) (rd_T50 b j :: b.drop (j + 1)) = 2 + D (rd_T50 a i :: a.drop (i + 1)) (b.drop (j + 1)) := by rw [← eD, ← eD1]; exact c2
          rw [if_neg c1', if_pos c2']
          have h := ins hj'
          rw [ea] at h; exact h
        · have c1' : ¬ D (rd_T50 a i :: a.drop (i + 1)) (rd_T50 b j :: b.drop (j + 1)) = costOf (opOf (rd_T50 a i) (rd_T50 b j)) + D (a.drop (i + 1)) (b.drop (j + 1)) := by rw [← eD]; exact c1
          have c2' : ¬ D (rd_T50 a i :: a.drop (i + 1)) (rd_T50 b j :: b.drop (j + 1)) = 2 + D (rd_T50 a i :: a.drop (i + 1)) (b.drop (j + 1)) := by rw [← eD, ← eD1]; exact c2
          rw [if_neg c1', if_neg c2']
          have h := del hi'
          rw [eb] at h; exact h
      · rw [decide_eq_false (show ¬ (i < a.length ∧ j < b.length) from fun h => hj' h.2)]
        obtain ⟨m, hm, hl, hat⟩ := hrow i hi
        have e2 : b.drop j = [] := List.drop_of_length_le (by omega)
        have h := del hi'
        rw [e2] at h ⊢
        rw [drop50 a i hi', scrR]
        exact r3_no a b t acc i j 0 0 _ ha hb (by omega) (by omega) (by omega) m hm hl (fun h => absurd h hj') (fun h => absurd h hj') (fun _ => h)
    · have e1 : a.drop i = [] := List.drop_of_length_le (by omega)
      by_cases hj' : j < b.length
      · refine r0_at a b t acc i j _ (.inr hj') ?_
        rw [decide_eq_false (show ¬ (i < a.length ∧ j < b.length) from fun h => hi' h.1)]
        obtain ⟨m, hm, hl, hat⟩ := hrow i hi
        have bd2 := Dik_bd a b i (j + 1) ha hb
        have hins := ins hj'
        rw [e1] at hins ⊢
        rw [drop50 b j hj', scrR]
        refine r3_no a b t acc i j (Dik a b i j) (Dik a b i (j + 1)) _ ha hb (by omega) (by omega) (by omega) m hm hl (fun _ => ⟨hat j hj, hat (j + 1) hj', bd2.1, le120 bd2.2⟩) (fun _ _ => hins) (fun h => ?_)
        exfalso
        apply h hj'
        unfold Dik
        rw [e1, D_nil, D_nil, List.length_drop, List.length_drop]
        omega
      · have e2 : b.drop j = [] := List.drop_of_length_le (by omega)
        rw [e1, e2, scrR, List.map_nil, List.append_nil]
        exact r0_end a b t acc i j hi' hj'
theorem refscript_ev (a b : List S50) : Ev (fun k => salchowref25_Script.f k a b) ((scriptV a b).1.map toRef, (scriptV a b).2) := by
  unfold salchowref25_Script.f scriptV
  have stop : ¬ (a.length ≤ 30 ∧ b.length ≤ 30) → Ev (fun k => salchowref25_Script.j0 k a b true) ((if a.length ≤ 30 ∧ b.length ≤ 30 then (scrR a b, (0 : Int)) else ([], 6)).1.map toRef, (if a.length ≤ 30 ∧ b.length ≤ 30 then (scrR a b, (0 : Int)) else ([], 6)).2) := fun h => by
    rw [if_neg h]
    refine ev_round ?_
    simp only [salchowref25_Script.j0]
    exact ev_pos (by simp) (ev_end rfl)
  refine ev_ite (fun h => stop (by omega)) (fun h => ?_)
  by_cases hb : (b.length : Int) > 30
  · rw [decide_eq_true hb]; exact stop (by omega)
  rw [decide_eq_false hb, if_pos ⟨by omega, by omega⟩]
  have ha30 : a.length ≤ 30 := by omega
  have hb30 : b.length ≤ 30 := by omega
  refine ev_round ?_
  simp only [salchowref25_Script.j0]
  refine ev_neg (by simp) (ev_call (reftable_ev a b ha30 hb30) ?_)
  exact refkey_ev a b ha30 hb30 (a.length + b.length) 0 0 [] (by omega) (by omega) (by omega) (by simp)
end Go.Proofs.Ytjmbkbnbepmhjaa.Pure
