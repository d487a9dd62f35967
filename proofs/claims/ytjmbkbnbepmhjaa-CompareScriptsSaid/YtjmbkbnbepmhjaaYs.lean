/- Plain side: small functions, the distance, the first script of least cost. -/
import Derived.Test.YtjmbkbnbepmhjaaE
import Derived.Test.YtjmbkbnbepmhjaaPx3
import Derived.Test.YtjmbkbnbepmhjaaPx6
import Derived.Test.YtjmbkbnbepmhjaaPx7
import Derived.Test.YtjmbkbnbepmhjaaPx8
import Derived.Test.YtjmbkbnbepmhjaaPx9
import Derived.Test.YtjmbkbnbepmhjaaPx10
import Derived.Test.YtjmbkbnbepmhjaaPx19
import Derived.Test.YtjmbkbnbepmhjaaPx20
import Derived.Test.YtjmbkbnbepmhjaaPx21
section
namespace Go.Proofs.Ytjmbkbnbepmhjaa.Pure
open Go.RowKit Go.Proofs.Ytjmbkbnbepmhjaa.P Go.Proofs.YtjmbkbnbepmhjaaW.PrintWords Go.Proofs.YtjmbkbnbepmhjaaW.PrintLast
set_option linter.unusedVariables false
def same (x y : S50) : Bool := x.f0.toList == y.f0.toList && (x.f1 == y.f1 && (x.f2 == y.f2 && (x.f3 == y.f3 && (x.f4 == y.f4))))
theorem same_iff (x y : S50) : same x y = true ↔ x.f0.toList = y.f0.toList ∧ x.f1 = y.f1 ∧ x.f2 = y.f2 ∧ x.f3 = y.f3 ∧ x.f4 = y.f4 := by
  unfold same; simp only [Bool.and_eq_true, beq_iff_eq]
theorem same_refl (x : S50) : same x x = true := (same_iff x x).mpr ⟨rfl, rfl, rfl, rfl, rfl⟩
theorem op_def (x y : S50) : opOf x y = if same x y = true then 1 else if x.f0.toList = y.f0.toList then 2 else 3 := rfl
theorem cost_def (x y : S50) : costOf (opOf x y) = if same x y = true then 0 else if x.f0.toList = y.f0.toList then 1 else 3 := by
  rw [op_def]; split
  · rfl
  · split <;> rfl
theorem cost_bd (x y : S50) : 0 ≤ costOf (opOf x y) ∧ costOf (opOf x y) ≤ 3 := by
  rw [cost_def]; split
  · omega
  · split <;> omega
theorem mn_le (a b : Int) : mn a b ≤ a ∧ mn a b ≤ b := by unfold mn; split <;> omega
def Sames (a b : List S50) : Prop := a.length = b.length ∧ ∀ i : Nat, i < a.length → same (rd_T50 a i) (rd_T50 b i) = true
end Go.Proofs.Ytjmbkbnbepmhjaa.Pure
end
section
namespace Go.Proofs.Ytjmbkbnbepmhjaa.Pure
open Go.RowKit Go.Proofs.Ytjmbkbnbepmhjaa.P Go.Proofs.Ytjmbkbnbepmhjaa.E Go.Proofs.YtjmbkbnbepmhjaaW.PrintWords Go.Proofs.YtjmbkbnbepmhjaaW.PrintLast
set_option linter.unusedVariables false
theorem awake_ev : Ev (fun k => salchowlaw25_awake.f k) true := Ev.of salchowlaw25_awake.mono (k := 40) (by decide +kernel)
theorem drop50 (l : List S50) (i : Nat) (h : i < l.length) : l.drop i = rd_T50 l (i : Int) :: l.drop (i + 1) := by
  rw [List.drop_eq_getElem_cons h]; congr 1; unfold rd_T50; simp [List.getD_eq_getElem?_getD, h]
theorem drop58 (l : List S58) (i : Nat) (h : i < l.length) : l.drop i = rd_T58 l (i : Int) :: l.drop (i + 1) := by
  rw [List.drop_eq_getElem_cons h]; congr 1; unfold rd_T58; simp [List.getD_eq_getElem?_getD, h]
theorem drop63 (l : List S63) (i : Nat) (h : i < l.length) : l.drop i = rd_T63 l (i : Int) :: l.drop (i + 1) := by
  rw [List.drop_eq_getElem_cons h]; congr 1; unfold rd_T63; simp [List.getD_eq_getElem?_getD, h]
theorem up1 (i n : Nat) (hi : i < n) (hn : n ≤ 1000000) : wrap64 ((i : Int) + 1) = ((i + 1 : Nat) : Int) := by
  rw [wid (by omega) (by omega)]; rfl
theorem ev_any {α : Type} {f : Nat → Option α} {p : α → Prop} {c : Prop} [Decidable c] {g : Nat → Option α} (hf : c → ∃ r, Ev f r ∧ p r) (hg : ¬ c → ∃ r, Ev g r ∧ p r) : ∃ r, Ev (fun k => if c then f k else g k) r ∧ p r := by
  by_cases h : c
  · obtain ⟨r, h1, h2⟩ := hf h; exact ⟨r, ev_pos h h1, h2⟩
  · obtain ⟨r, h1, h2⟩ := hg h; exact ⟨r, ev_neg h h1, h2⟩
theorem small_ev (a b : List S50) (s : List S58) : ∃ r : Bool, Ev (fun k => salchowref25_Small.f k a b s) r ∧ (r = true → a.length ≤ 40 ∧ b.length ≤ 40 ∧ s.length ≤ 80) := by
  unfold salchowref25_Small.f
  have stop : ∃ r : Bool, Ev (fun k => salchowref25_Small.j0 k a b s true) r ∧ (r = true → a.length ≤ 40 ∧ b.length ≤ 40 ∧ s.length ≤ 80) := by
    refine ⟨false, ev_round ?_, fun h => absurd h (by simp)⟩
    simp only [salchowref25_Small.j0]
    exact ev_pos (by simp) (ev_end rfl)
  refine ev_any (fun _ => stop) (fun h1 => ev_any (fun _ => stop) (fun h2 => ?_))
  by_cases h3 : (s.length : Int) > 80
  · rw [decide_eq_true h3]; exact stop
  rw [decide_eq_false h3]
  have hl2 : ∃ r : Bool, Ev (fun k => salchowref25_Small.l2 k s 0) r := by
    refine down (P := fun j => ∃ r : Bool, Ev (fun k => salchowref25_Small.l2 k s (j : Int)) r) s.length ?_ ?_ 0 (by omega)
    · refine ⟨true, ev_round ?_⟩
      simp only [salchowref25_Small.l2]
      exact ev_neg (by omega) (ev_end rfl)
    · rintro j hj ⟨r, hr⟩
      by_cases c : (((rd_T58 s j).f1.f0).size : Int) > 40
      · refine ⟨false, ev_round ?_⟩
        simp only [salchowref25_Small.l2]
        exact ev_pos (by omega) (ev_pos (by omega) (ev_pos c (ev_end rfl)))
      · refine ⟨r, ev_round ?_⟩
        simp only [salchowref25_Small.l2]
        refine ev_pos (by omega) (ev_pos (by omega) (ev_neg c ?_))
        rw [up1 j s.length hj (by omega)]; exact hr
  have hl1 : ∃ r : Bool, Ev (fun k => salchowref25_Small.l1 k b s 0) r := by
    refine down (P := fun j => ∃ r : Bool, Ev (fun k => salchowref25_Small.l1 k b s (j : Int)) r) b.length ?_ ?_ 0 (by omega)
    · obtain ⟨r, hr⟩ := hl2
      refine ⟨r, ev_round ?_⟩
      simp only [salchowref25_Small.l1]
      exact ev_neg (by omega) hr
    · rintro j hj ⟨r, hr⟩
      by_cases c : (((rd_T50 b j).f0).size : Int) > 40
      · refine ⟨false, ev_round ?_⟩
        simp only [salchowref25_Small.l1]
        exact ev_pos (by omega) (ev_pos (by omega) (ev_pos c (ev_end rfl)))
      · refine ⟨r, ev_round ?_⟩
        simp only [salchowref25_Small.l1]
        refine ev_pos (by omega) (ev_pos (by omega) (ev_neg c ?_))
        rw [up1 j b.length hj (by omega)]; exact hr
  have hl0 : ∃ r : Bool, Ev (fun k => salchowref25_Small.l0 k a b s 0) r := by
    refine down (P := fun j => ∃ r : Bool, Ev (fun k => salchowref25_Small.l0 k a b s (j : Int)) r) a.length ?_ ?_ 0 (by omega)
    · obtain ⟨r, hr⟩ := hl1
      refine ⟨r, ev_round ?_⟩
      simp only [salchowref25_Small.l0]
      exact ev_neg (by omega) hr
    · rintro j hj ⟨r, hr⟩
      by_cases c : (((rd_T50 a j).f0).size : Int) > 40
      · refine ⟨false, ev_round ?_⟩
        simp only [salchowref25_Small.l0]
        exact ev_pos (by omega) (ev_pos (by omega) (ev_pos c (ev_end rfl)))
      · refine ⟨r, ev_round ?_⟩
        simp only [salchowref25_Small.l0]
        refine ev_pos (by omega) (ev_pos (by omega) (ev_neg c ?_))
        rw [up1 j a.length hj (by omega)]; exact hr
  obtain ⟨r, hr⟩ := hl0
  refine ⟨r, ev_round ?_, fun _ => by omega⟩
  simp only [salchowref25_Small.j0]
  exact ev_neg (by simp) hr
def costI (op : Int) : Int := if op = 1 then 0 else if op = 2 then 1 else if op = 4 then 2 else if op = 5 then 2 else if op = 3 then 3 else -1
theorem cost_ev (op : Int) : Ev (fun k => compare_Cost.f k op) (costI op) := by
  unfold compare_Cost.f costI
  by_cases h1 : op = 1
  · rw [if_pos h1]; exact ev_pos h1 (ev_end rfl)
  rw [if_neg h1]; refine ev_neg h1 ?_
  by_cases h2 : op = 2
  · rw [if_pos h2]; exact ev_pos h2 (ev_end rfl)
  rw [if_neg h2]; refine ev_neg h2 ?_
  by_cases h4 : op = 4
  · subst h4; refine ev_pos rfl (ev_round ?_); simp only [compare_Cost.j0]; exact ev_pos (by simp) (ev_end (by simp))
  rw [if_neg h4]; refine ev_neg h4 (ev_round ?_); simp only [compare_Cost.j0]
  by_cases h5 : op = 5
  · subst h5; exact ev_pos (by simp) (ev_end (by simp))
  rw [if_neg h5]; refine ev_neg (by simpa using h5) ?_
  exact ev_ite (fun h => ev_end (by rw [if_pos h])) (fun h => ev_end (by rw [if_neg h]))
theorem refcost_ev (op : Int) : Ev (fun k => salchowref25_Cost.f k op) (costI op) := by
  unfold salchowref25_Cost.f costI
  by_cases h1 : op = 1
  · rw [if_pos h1]; exact ev_pos h1 (ev_end rfl)
  rw [if_neg h1]; refine ev_neg h1 ?_
  by_cases h2 : op = 2
  · rw [if_pos h2]; exact ev_pos h2 (ev_end rfl)
  rw [if_neg h2]; refine ev_neg h2 ?_
  by_cases h4 : op = 4
  · subst h4; refine ev_pos rfl (ev_round ?_); simp only [salchowref25_Cost.j0]; exact ev_pos (by simp) (ev_end (by simp))
  rw [if_neg h4]; refine ev_neg h4 (ev_round ?_); simp only [salchowref25_Cost.j0]
  by_cases h5 : op = 5
  · subst h5; exact ev_pos (by simp) (ev_end (by simp))
  rw [if_neg h5]; refine ev_neg (by simpa using h5) ?_
  exact ev_ite (fun h => ev_end (by rw [if_pos h])) (fun h => ev_end (by rw [if_neg h]))
end Go.Proofs.Ytjmbkbnbepmhjaa.Pure
end
section
namespace Go.Proofs.Ytjmbkbnbepmhjaa.Pure
open Go.RowKit Go.Proofs.Ytjmbkbnbepmhjaa.P Go.Proofs.Ytjmbkbnbepmhjaa.E Go.Proofs.YtjmbkbnbepmhjaaW.PrintWords Go.Proofs.YtjmbkbnbepmhjaaW.PrintLast
set_option linter.unusedVariables false
def zit : S50 := ⟨⟨#[]⟩, 0, false, false, false⟩
end Go.Proofs.Ytjmbkbnbepmhjaa.Pure
end
section
namespace Go.Proofs.Ytjmbkbnbepmhjaa.Pure
open Go.RowKit Go.Proofs.Ytjmbkbnbepmhjaa.P Go.Proofs.Ytjmbkbnbepmhjaa.E Go.Proofs.YtjmbkbnbepmhjaaW.PrintWords Go.Proofs.YtjmbkbnbepmhjaaW.PrintLast
set_option linter.unusedVariables false
instance (a b : List S50) : Decidable (Sames a b) := by unfold Sames; infer_instance
theorem sameSteps_ev (a : List S58) (ha : a.length ≤ 1000) : Ev (fun k => salchowref25_SameSteps.f k a a) true := by
  unfold salchowref25_SameSteps.f
  refine ev_pos rfl ?_
  have key : Ev (fun k => salchowref25_SameSteps.l0 k a a ((0 : Nat) : Int)) true := by
    refine down (P := fun j => Ev (fun k => salchowref25_SameSteps.l0 k a a (j : Int)) true) a.length ?_ ?_ 0 (by omega)
    · refine ev_round ?_
      simp only [salchowref25_SameSteps.l0]
      exact ev_neg (by omega) (ev_end rfl)
    · intro j hj ih
      refine ev_round ?_
      simp only [salchowref25_SameSteps.l0]
      refine ev_pos (by omega) (ev_pos (by omega) (ev_pos (by omega) (ev_neg (by simp) ?_)))
      rw [up1 j a.length hj (by omega)]; exact ih
  exact key
def toRef (x : S63) : S58 := ⟨x.f0, x.f1⟩
theorem theirs_ev (s : List S63) (hs : s.length ≤ 1000) : Ev (fun k => salchowlaw25_theirs.f k s) (s.map toRef) := by
  unfold salchowlaw25_theirs.f
  have key : ∀ acc : List S58, acc.length ≤ 0 → Ev (fun k => salchowlaw25_theirs.l0 k s acc ((0 : Nat) : Int)) (acc ++ (s.drop 0).map toRef) := by
    refine down (P := fun j => ∀ acc : List S58, acc.length ≤ j → Ev (fun k => salchowlaw25_theirs.l0 k s acc (j : Int)) (acc ++ (s.drop j).map toRef)) s.length ?_ ?_ 0 (by omega)
    · intro acc hc
      refine ev_round ?_
      simp only [salchowlaw25_theirs.l0, List.drop_length]
      exact ev_neg (by omega) (ev_end (by simp))
    · intro j hj ih acc hc
      refine ev_round ?_
      simp only [salchowlaw25_theirs.l0]
      refine ev_pos (by omega) (ev_pos (by omega) (ev_pos (by omega) ?_))
      rw [up1 j s.length hj (by omega), drop63 s j hj, List.map_cons]
      have := ih (acc ++ [toRef (rd_T63 s j)]) (by simp; omega)
      rw [List.append_assoc] at this
      exact this
  exact key [] (by simp)
end Go.Proofs.Ytjmbkbnbepmhjaa.Pure
end
section
namespace Go.Proofs.Ytjmbkbnbepmhjaa.Pure
open Go.RowKit Go.Proofs.Ytjmbkbnbepmhjaa.P Go.Proofs.Ytjmbkbnbepmhjaa.E Go.Proofs.YtjmbkbnbepmhjaaW.PrintWords Go.Proofs.YtjmbkbnbepmhjaaW.PrintLast
set_option linter.unusedVariables false
theorem turn_is (x y : S50) : salchowref25_Turn.f x.f0 x.f1 x.f2 x.f3 x.f4 y.f0 y.f1 y.f2 y.f3 y.f4 = some (opOf x y) := by
  unfold salchowref25_Turn.f opOf
  split
  · rfl
  · split <;> rfl
end Go.Proofs.Ytjmbkbnbepmhjaa.Pure
end
section
namespace Go.Proofs.Ytjmbkbnbepmhjaa.Pure
open Go.RowKit Go.Proofs.Ytjmbkbnbepmhjaa.P Go.Proofs.Ytjmbkbnbepmhjaa.E Go.Proofs.YtjmbkbnbepmhjaaW.PrintWords Go.Proofs.YtjmbkbnbepmhjaaW.PrintLast
set_option linter.unusedVariables false
theorem dist_is (a b : List S50) (ha : a.length ≤ 30) (hb : b.length ≤ 30) : compare_Distance.f a b = some (D a b, 0) := by
  unfold compare_Distance.f compare_table.f
  rw [if_neg (by omega), if_neg (by omega), if_pos ha, if_pos hb, Option.bind_some]
  have h1 : (TBL a b).length = a.length + 1 := by simp [TBL]
  have h2 : rd_L6 (TBL a b) 0 = (List.range (b.length + 1)).map fun k => Dik a b 0 k := by
    unfold rd_L6 TBL
    simp [List.getD_eq_getElem?_getD]
  have h3 : rd ((List.range (b.length + 1)).map fun k => Dik a b 0 k) 0 = D a b := by
    unfold rd
    simp [List.getD_eq_getElem?_getD, Dik]
  rw [if_pos (by omega), h2, if_pos (by simp), h3]
end Go.Proofs.Ytjmbkbnbepmhjaa.Pure
end
section
namespace Go.Proofs.Ytjmbkbnbepmhjaa.Pure
open Go.RowKit Go.Proofs.Ytjmbkbnbepmhjaa.P Go.Proofs.Ytjmbkbnbepmhjaa.E Go.Proofs.YtjmbkbnbepmhjaaW.PrintWords Go.Proofs.YtjmbkbnbepmhjaaW.PrintLast
set_option linter.unusedVariables false
def stepOf (x y : S50) : S63 := if opOf x y = 1 then ⟨1, zit⟩ else ⟨opOf x y, y⟩
def scrR : List S50 → List S50 → List S63
  | [], [] => []
  | [], y :: b => ⟨4, y⟩ :: scrR [] b
  | x :: a, [] => ⟨5, zit⟩ :: scrR a []
  | x :: a, y :: b =>
    if D (x :: a) (y :: b) = costOf (opOf x y) + D a b then stepOf x y :: scrR a b
    else if D (x :: a) (y :: b) = 2 + D (x :: a) b then ⟨4, y⟩ :: scrR (x :: a) b
    else ⟨5, zit⟩ :: scrR a (y :: b)
termination_by a b => a.length + b.length
end Go.Proofs.Ytjmbkbnbepmhjaa.Pure
end
section
namespace Go.Proofs.Ytjmbkbnbepmhjaa.Pure
open Go.RowKit Go.Proofs.Ytjmbkbnbepmhjaa.P Go.Proofs.Ytjmbkbnbepmhjaa.E Go.Proofs.YtjmbkbnbepmhjaaW.PrintWords Go.Proofs.YtjmbkbnbepmhjaaW.PrintLast
set_option linter.unusedVariables false
theorem tbl_len (a b : List S50) : ((TBL a b).length : Int) = (a.length : Int) + 1 := by simp [TBL]
theorem tbl_row (a b : List S50) (i : Nat) (hi : i ≤ a.length) : rd_L6 (TBL a b) (i : Int) = (List.range (b.length + 1)).map fun k => Dik a b i k := by
  unfold rd_L6 TBL
  rw [Int.toNat_natCast, List.getD_eq_getElem?_getD, List.getElem?_map, List.getElem?_range (by omega)]; rfl
theorem tbl_row_len (a b : List S50) (i : Nat) (hi : i ≤ a.length) : ((rd_L6 (TBL a b) (i : Int)).length : Int) = (b.length : Int) + 1 := by
  rw [tbl_row a b i hi]; simp
theorem tbl_at (a b : List S50) (i k : Nat) (hi : i ≤ a.length) (hk : k ≤ b.length) : rd (rd_L6 (TBL a b) (i : Int)) (k : Int) = Dik a b i k := by
  rw [tbl_row a b i hi]
  unfold rd
  rw [Int.toNat_natCast, List.getD_eq_getElem?_getD, List.getElem?_map, List.getElem?_range (by omega)]; rfl
def scriptV (a b : List S50) : List S63 × Int := if a.length ≤ 30 ∧ b.length ≤ 30 then (scrR a b, 0) else ([], 6)
theorem j4_del (a b : List S50) (t : List (List Int)) (acc : List S63) (i j : Nat) (r : List S63 × Int) (hi : i < a.length) (ha : a.length ≤ 30) (hc : acc.length ≤ 60)
    (h : Ev (fun k => compare_Script.l0 k a b t (acc ++ [⟨5, zit⟩]) ((i + 1 : Nat) : Int) (j : Int)) r) : Ev (fun k => compare_Script.j4 k a b t acc (i : Int) (j : Int) false) r := by
  refine ev_round ?_
  simp only [compare_Script.j4]
  refine ev_neg (by simp) (ev_pos (by omega) (ev_pos (by omega) ?_))
  rw [up1 i a.length hi (by omega)]
  exact h
theorem j4_end (a b : List S50) (t : List (List Int)) (acc : List S63) (i j : Nat) (hi : ¬ i < a.length) : Ev (fun k => compare_Script.j4 k a b t acc (i : Int) (j : Int) false) (acc, 0) := by
  refine ev_round ?_
  simp only [compare_Script.j4]
  exact ev_neg (by simp) (ev_neg (by omega) (ev_end rfl))
theorem j4_ins (a b : List S50) (t : List (List Int)) (acc : List S63) (i j : Nat) (r : List S63 × Int) (hj : j < b.length) (hb : b.length ≤ 30) (hc : acc.length ≤ 60)
    (h : Ev (fun k => compare_Script.l0 k a b t (acc ++ [⟨4, rd_T50 b j⟩]) (i : Int) ((j + 1 : Nat) : Int)) r) : Ev (fun k => compare_Script.j4 k a b t acc (i : Int) (j : Int) true) r := by
  refine ev_round ?_
  simp only [compare_Script.j4]
  refine ev_pos (by simp) (ev_pos (by omega) (ev_pos (by omega) (ev_pos (by omega) ?_)))
  rw [up1 j b.length hj (by omega)]
  exact h
theorem j3_no (a b : List S50) (t : List (List Int)) (acc : List S63) (i j : Nat) (r : List S63 × Int) (hj : ¬ j < b.length) (h : Ev (fun k => compare_Script.j4 k a b t acc (i : Int) (j : Int) false) r) : Ev (fun k => compare_Script.j3 k a b t acc (i : Int) (j : Int)) r := by
  refine ev_round ?_
  simp only [compare_Script.j3]
  exact ev_neg (by omega) h
theorem j3_at (a b : List S50) (t : List (List Int)) (acc : List S63) (i j : Nat) (v v' : Int) (r : List S63 × Int) (hj : j < b.length) (hb : b.length ≤ 30) (ht : i < t.length) (m : List Int) (hm : rd_L6 t (i : Int) = m) (hl : m.length = b.length + 1)
    (hv : rd m (j : Int) = v) (hv' : rd m ((j + 1 : Nat) : Int) = v') (b0 : 0 ≤ v') (b1 : v' ≤ 1000)
    (h : Ev (fun k => compare_Script.j4 k a b t acc (i : Int) (j : Int) (decide (v = 2 + v'))) r) : Ev (fun k => compare_Script.j3 k a b t acc (i : Int) (j : Int)) r := by
  refine ev_round ?_
  simp only [compare_Script.j3]
  rw [hm, up1 j b.length hj (by omega), hv, hv']
  refine ev_pos (by omega) (ev_pos (by omega) (ev_pos (by omega) (ev_pos (by omega) (ev_pos (by omega) (ev_call (cost_ev 4) ?_)))))
  have e4 : costI 4 = 2 := rfl
  rw [e4, wid (by omega) (by omega)]
  refine ev_pos (by omega) (ev_pos (by omega) ?_)
  have e : (v == 2 + v') = decide (v = 2 + v') := rfl
  rw [e]
  exact h
theorem j2_no (a b : List S50) (t : List (List Int)) (acc : List S63) (i j : Nat) (r : List S63 × Int) (h : Ev (fun k => compare_Script.j3 k a b t acc (i : Int) (j : Int)) r) : Ev (fun k => compare_Script.j2 k a b t acc (i : Int) (j : Int) false) r := by
  refine ev_round ?_
  simp only [compare_Script.j2]
  exact ev_neg (by simp) h
theorem l0_at (a b : List S50) (t : List (List Int)) (acc : List S63) (i j : Nat) (r : List S63 × Int) (h : Ev (fun k => compare_Script.j2 k a b t acc (i : Int) (j : Int) (decide (i < a.length ∧ j < b.length))) r) : Ev (fun k => compare_Script.l0 k a b t acc (i : Int) (j : Int)) r := by
  refine ev_round ?_
  simp only [compare_Script.l0]
  by_cases hi : i < a.length
  · refine ev_pos (by omega) ?_
    have e : decide ((j : Int) < (b.length : Int)) = decide (i < a.length ∧ j < b.length) := by
      by_cases hj : j < b.length
      · rw [decide_eq_true (show i < a.length ∧ j < b.length from ⟨hi, hj⟩), decide_eq_true (show (j : Int) < (b.length : Int) by omega)]
      · rw [decide_eq_false (show ¬ (i < a.length ∧ j < b.length) from fun h => hj h.2), decide_eq_false (show ¬ (j : Int) < (b.length : Int) by omega)]
    rw [e]; exact h
  · refine ev_neg (by omega) ?_
    rw [decide_eq_false (show ¬ (i < a.length ∧ j < b.length) from fun h => hi h.1)] at h
    exact h
theorem j2_at (a b : List S50) (t : List (List Int)) (acc : List S63) (i j : Nat) (v u c : Int) (op : Int) (r : List S63 × Int) (hi : i < a.length) (hj : j < b.length) (ha : a.length ≤ 30) (hb : b.length ≤ 30) (hc : acc.length ≤ 60) (ht : i + 1 < t.length)
    (m m' : List Int) (hm : rd_L6 t (i : Int) = m) (hm' : rd_L6 t ((i + 1 : Nat) : Int) = m') (hl : m.length = b.length + 1) (hl' : m'.length = b.length + 1)
    (hop : opOf (rd_T50 a i) (rd_T50 b j) = op) (hcost : costI op = c) (c0 : 0 ≤ c) (c1 : c ≤ 10) (hv : rd m (j : Int) = v) (hu : rd m' ((j + 1 : Nat) : Int) = u) (b0 : 0 ≤ u) (b1 : u ≤ 1000)
    (h1 : v = c + u → Ev (fun k => compare_Script.l0 k a b t (acc ++ [if op = 1 then ⟨op, zit⟩ else ⟨op, rd_T50 b j⟩]) ((i + 1 : Nat) : Int) ((j + 1 : Nat) : Int)) r)
    (h2 : v ≠ c + u → Ev (fun k => compare_Script.j3 k a b t acc (i : Int) (j : Int)) r) : Ev (fun k => compare_Script.j2 k a b t acc (i : Int) (j : Int) true) r := by
  refine ev_round ?_
  simp only [compare_Script.j2]
  refine ev_pos (by simp) (ev_pos (by omega) (ev_pos (by omega) (ev_pos (by omega) (ev_pos (by omega) (ev_const (taking_is _ _) ?_)))))
  rw [hop, hm, up1 i a.length hi (by omega), up1 j b.length hj (by omega), hm', hv, hu]
  refine ev_pos (by omega) (ev_pos (by omega) (ev_call (cost_ev op) ?_))
  rw [hcost, wid (by omega) (by omega)]
  refine ev_pos (by omega) (ev_pos (by omega) (ev_pos (by omega) (ev_pos (by omega) ?_)))
  by_cases e : v = c + u
  · refine ev_pos e ?_
    have h := h1 e
    by_cases e1 : op = 1
    · rw [if_pos e1] at h
      exact ev_pos e1 (ev_pos (by omega) h)
    · rw [if_neg e1] at h
      exact ev_neg e1 (ev_pos (by omega) h)
  · exact ev_neg e (h2 e)
theorem key_ev (a b : List S50) (ha : a.length ≤ 30) (hb : b.length ≤ 30) : ∀ (n i j : Nat) (acc : List S63), (a.length - i) + (b.length - j) ≤ n → i ≤ a.length → j ≤ b.length → acc.length ≤ i + j →
    Ev (fun k => compare_Script.l0 k a b (TBL a b) acc (i : Int) (j : Int)) (acc ++ scrR (a.drop i) (b.drop j), 0) := by
  obtain ⟨t, htt⟩ : ∃ t, t = TBL a b := ⟨_, rfl⟩
  have htl : t.length = a.length + 1 := by have := tbl_len a b; rw [htt]; omega
  have hrow : ∀ i : Nat, i ≤ a.length → ∃ m, rd_L6 t (i : Int) = m ∧ m.length = b.length + 1 ∧ ∀ j : Nat, j ≤ b.length → rd m (j : Int) = Dik a b i j := by
    intro i hi
    refine ⟨_, rfl, ?_, fun j hj => ?_⟩
    · have := tbl_row_len a b i hi; rw [htt]; omega
    · rw [htt]; exact tbl_at a b i j hi hj
  rw [← htt]
  clear htt
  intro n
  induction n with
  | zero =>
    intro i j acc hn hi hj hc
    have e1 : a.drop i = [] := List.drop_of_length_le (by omega)
    have e2 : b.drop j = [] := List.drop_of_length_le (by omega)
    rw [e1, e2, scrR, List.append_nil]
    refine l0_at _ _ _ _ _ _ _ ?_
    rw [decide_eq_false (show ¬ (i < a.length ∧ j < b.length) by omega)]
    exact j2_no _ _ _ _ _ _ _ (j3_no _ _ _ _ _ _ _ (by omega) (j4_end _ _ _ _ _ _ (by omega)))
  | succ n ih =>
    intro i j acc hn hi hj hc
    have del : i < a.length → Ev (fun k => compare_Script.j4 k a b t acc (i : Int) (j : Int) false) (acc ++ ⟨5, zit⟩ :: scrR (a.drop (i + 1)) (b.drop j), 0) := by
      intro hi'
      have h := ih (i + 1) j (acc ++ [⟨5, zit⟩]) (by omega) (by omega) hj (by simp; omega)
      rw [List.append_assoc] at h
      exact j4_del _ _ _ _ _ _ _ hi' ha (by omega) h
    have ins : j < b.length → Ev (fun k => compare_Script.j4 k a b t acc (i : Int) (j : Int) true) (acc ++ ⟨4, rd_T50 b j⟩ :: scrR (a.drop i) (b.drop (j + 1)), 0) := by
      intro hj'
      have h := ih i (j + 1) (acc ++ [⟨4, rd_T50 b j⟩]) (by omega) hi (by omega) (by simp; omega)
      rw [List.append_assoc] at h
      exact j4_ins _ _ _ _ _ _ _ hj' hb (by omega) h
    have third : j < b.length → ∀ r, (Dik a b i j = 2 + Dik a b i (j + 1) → Ev (fun k => compare_Script.j4 k a b t acc (i : Int) (j : Int) true) r) → (Dik a b i j ≠ 2 + Dik a b i (j + 1) → Ev (fun k => compare_Script.j4 k a b t acc (i : Int) (j : Int) false) r) → Ev (fun k => compare_Script.j3 k a b t acc (i : Int) (j : Int)) r := by
      intro hj' r h1 h2
      obtain ⟨m, hm, hl, hat⟩ := hrow i hi
      have bd := Dik_bd a b i (j + 1) ha hb
      refine j3_at a b t acc i j _ _ r hj' hb (by omega) m hm hl (hat j hj) (hat (j + 1) hj') bd.1 (Int.le_trans bd.2 (by decide)) ?_
      by_cases c : Dik a b i j = 2 + Dik a b i (j + 1)
      · rw [decide_eq_true c]; exact h1 c
      · rw [decide_eq_false c]; exact h2 c
    refine l0_at _ _ _ _ _ _ _ ?_
    by_cases hi' : i < a.length
    · by_cases hj' : j < b.length
      · rw [decide_eq_true (show i < a.length ∧ j < b.length from ⟨hi', hj'⟩)]
        obtain ⟨m, hm, hl, hat⟩ := hrow i hi
        obtain ⟨m', hm', hl', hat'⟩ := hrow (i + 1) hi'
        have bd1 := Dik_bd a b (i + 1) (j + 1) ha hb
        have cb := cost_bd (rd_T50 a i) (rd_T50 b j)
        have ec : costI (opOf (rd_T50 a i) (rd_T50 b j)) = costOf (opOf (rd_T50 a i) (rd_T50 b j)) := by
          rcases opOf_is (rd_T50 a i) (rd_T50 b j) with e | e | e <;> rw [e] <;> rfl
        have ea := drop50 a i hi'
        have eb := drop50 b j hj'
        have eD : Dik a b i j = D (rd_T50 a i :: a.drop (i + 1)) (rd_T50 b j :: b.drop (j + 1)) := by unfold Dik; rw [ea, eb]
        have eD1 : Dik a b i (j + 1) = D (rd_T50 a i :: a.drop (i + 1)) (b.drop (j + 1)) := by unfold Dik; rw [ea]
        rw [ea, eb, scrR]
        refine j2_at a b t acc i j _ _ _ _ _ hi' hj' ha hb (by omega) (by omega) m m' hm hm' hl hl' rfl ec cb.1 (Int.le_trans cb.2 (by decide)) (hat j hj) (hat' (j + 1) hj') bd1.1 (Int.le_trans bd1.2 (by decide)) (fun c1 => ?_) (fun c1 => ?_)
        · have c1' : D (rd_T50 a i :: a.drop (i + 1)) (rd_T50 b j :: b.drop (j + 1)) = costOf (opOf (rd_T50 a i) (rd_T50 b j)) + D (a.drop (i + 1)) (b.drop (j + 1)) := by rw [← eD]; exact c1
          rw [if_pos c1']
          have h := ih (i + 1) (j + 1) (acc ++ [stepOf (rd_T50 a i) (rd_T50 b j)]) (by omega) (by omega) (by omega) (by simp; omega)
          rw [List.append_assoc] at h
          have es : (if opOf (rd_T50 a i) (rd_T50 b j) = 1 then (⟨opOf (rd_T50 a i) (rd_T50 b j), zit⟩ : S63) else ⟨opOf (rd_T50 a i) (rd_T50 b j), rd_T50 b j⟩) = stepOf (rd_T50 a i) (rd_T50 b j) := by
            unfold stepOf
            by_cases c : opOf (rd_T50 a i) (rd_T50 b j) = 1
            · rw [if_pos c, if_pos c, c]
            · rw [if_neg c, if_neg c]
          rw [es]; exact h
        · have c1' : ¬ D (rd_T50 a i :: a.drop (i + 1)) (rd_T50 b j :: b.drop (j + 1)) = costOf (opOf (rd_T50 a i) (rd_T50 b j)) + D (a.drop (i + 1)) (b.drop (j + 1)) := by rw [← eD]; exact c1
          rw [if_neg c1']
          refine third hj' _ (fun c2 => ?_) (fun c2 => ?_)
          · have c2' : D (rd_T50 a i :: a.drop (i + 1)) (rd_T50 b j :: b.drop (j + 1)) = 2 + D (rd_T50 a i :: a.drop (i + 1)) (b.drop (j + 1)) := by rw [← eD, ← eD1]; exact c2
            rw [if_pos c2']
            have h := ins hj'
            rw [ea] at h; exact h
          · have c2' : ¬ D (rd_T50 a i :: a.drop (i + 1)) (rd_T50 b j :: b.drop (j + 1)) = 2 + D (rd_T50 a i :: a.drop (i + 1)) (b.drop (j + 1)) := by rw [← eD, ← eD1]; exact c2
            rw [if_neg c2']
            have h := del hi'
            rw [eb] at h; exact h
      · rw [decide_eq_false (show ¬ (i < a.length ∧ j < b.length) from fun h => hj' h.2)]
        have e2 : b.drop j = [] := List.drop_of_length_le (by omega)
        have h := del hi'
        rw [e2] at h ⊢
        rw [drop50 a i hi', scrR]
        exact j2_no _ _ _ _ _ _ _ (j3_no _ _ _ _ _ _ _ hj' h)
    · rw [decide_eq_false (show ¬ (i < a.length ∧ j < b.length) from fun h => hi' h.1)]
      have e1 : a.drop i = [] := List.drop_of_length_le (by omega)
      refine j2_no _ _ _ _ _ _ _ ?_
      by_cases hj' : j < b.length
      · refine third hj' _ (fun _ => ?_) (fun h => ?_)
        · have h := ins hj'
          rw [e1] at h ⊢
          rw [drop50 b j hj', scrR]; exact h
        · exfalso
          apply h
          unfold Dik
          rw [e1, D_nil, D_nil, List.length_drop, List.length_drop]
          omega
      · have e2 : b.drop j = [] := List.drop_of_length_le (by omega)
        rw [e1, e2, scrR, List.append_nil]
        exact j3_no _ _ _ _ _ _ _ hj' (j4_end _ _ _ _ _ _ hi')
theorem script_ev (a b : List S50) : Ev (fun k => compare_Script.f k a b) (scriptV a b) := by
  unfold compare_Script.f scriptV
  have stop : ¬ (a.length ≤ 30 ∧ b.length ≤ 30) → Ev (fun k => compare_Script.j0 k a b true) (if a.length ≤ 30 ∧ b.length ≤ 30 then (scrR a b, 0) else ([], 6)) := fun h => by
    rw [if_neg h]
    refine ev_round ?_
    simp only [compare_Script.j0]
    exact ev_pos (by simp) (ev_end rfl)
  refine ev_ite (fun h => stop (by omega)) (fun h => ?_)
  by_cases hb : (b.length : Int) > 30
  · rw [decide_eq_true hb]; exact stop (by omega)
  rw [decide_eq_false hb, if_pos ⟨by omega, by omega⟩]
  have ha30 : a.length ≤ 30 := by omega
  have hb30 : b.length ≤ 30 := by omega
  refine ev_round ?_
  simp only [compare_Script.j0]
  refine ev_neg (by simp) (ev_const (a := TBL a b) (by unfold compare_table.f; rw [if_pos ha30, if_pos hb30]) ?_)
  exact key_ev a b ha30 hb30 (a.length + b.length) 0 0 [] (by omega) (by omega) (by omega) (by simp)
end Go.Proofs.Ytjmbkbnbepmhjaa.Pure
end
