-- out of a program (drive.sh), by way of the translation's print
import Derived.Test.YtjmbkbnbepmhjaaPx0
import Derived.Test.YtjmbkbnbepmhjaaPx4
import Derived.Test.YtjmbkbnbepmhjaaPx5
namespace Go.Proofs.Ytjmbkbnbepmhjaa.P
open Go.RowKit Go.Proofs.YtjmbkbnbepmhjaaW.PrintWords Go.Proofs.YtjmbkbnbepmhjaaW.PrintLast Go.Proofs.YtjmbkbnbepmhjaaW.PrintMore
attribute [local go_sem] max2_int min2_int max_two min_two max_three min_three max_four min_four   -- for this text's walks alone
set_option linter.unusedVariables false
set_option linter.unusedSimpArgs false

/-! ### compare_table: function 33 -/
theorem info45h : (Try.prog.info? 45).map (fun i => (i.zero, i.size, i.bytes)) = some (some (.slice none 0 0), 1, 24) := by kernel_rfl
/-- A block of m cells, of which the first n are told. -/
def Blk (W : World) (g t m n : Nat) (V : Nat → Value) : Prop := ∃ cur : Array Value, W.heap[g]? = some (.cells cur t (0, 0)) ∧ cur.size = m ∧ ∀ i, i < n → cur[i]? = some (V i)
theorem Blk.cell {W : World} {g t m n : Nat} {V : Nat → Value} (h : Blk W g t m n V) (i : Nat) (hi : i < n) : W.cell? ⟨g, i, none⟩ = some (V i) := by
 obtain ⟨cur, hb, _, hv⟩ := h
 rw [blk_cell hb i]; exact hv i hi
theorem Blk.has {W : World} {g t m n : Nat} {V : Nat → Value} (h : Blk W g t m n V) (i : Nat) (hi : i < m) : ∃ u, W.cell? ⟨g, i, none⟩ = some u := by
 obtain ⟨cur, hb, hm, hv⟩ := h
 rw [blk_cell hb i]; exact ⟨_, Array.getElem?_eq_getElem (by omega)⟩
theorem Blk.frozen {W : World} {g t m n : Nat} {V : Nat → Value} (h : Blk W g t m n V) (i : Nat) : W.frozen? ⟨g, i, none⟩ = false := by
 obtain ⟨cur, hb, _, _⟩ := h
 exact blk_frozen hb i
theorem Blk.below {W W1 : World} {g t m n : Nat} {V : Nat → Value} (h : Blk W g t m n V) (hb : Below W.heap.size W W1) : Blk W1 g t m n V := by
 obtain ⟨cur, h1, h2⟩ := h
 exact ⟨cur, blk_below h1 hb, h2⟩
theorem Blk.grown {W W1 : World} {g t m n : Nat} {V : Nat → Value} (h : Blk W g t m n V) (hg : W.grownBy W1 none) : Blk W1 g t m n V := by
 obtain ⟨cur, h1, h2⟩ := h
 exact ⟨cur, blk_grown h1 hg (by simp), h2⟩
theorem Blk.far {W : World} {g t m n : Nat} {V : Nat → Value} (h : Blk W g t m n V) {p : Addr} (hp : g ≠ p.block) (u : Value) : Blk (W.setCell p u) g t m n V := by
 obtain ⟨cur, h1, h2⟩ := h
 exact ⟨cur, blk_far h1 hp u, h2⟩
theorem Blk.drewN {W : World} {g t m n : Nat} {V : Nat → Value} (h : Blk W g t m n V) (k : Nat) : Blk (W.drewN k) g t m n V := h
theorem Blk.drew {W : World} {g t m n : Nat} {V : Nat → Value} (h : Blk W g t m n V) : Blk W.drew g t m n V := h
theorem Blk.lt {W : World} {g t m n : Nat} {V : Nat → Value} (h : Blk W g t m n V) : g < W.heap.size := by
 obtain ⟨cur, h1, _⟩ := h
 exact blk_lt h1
theorem Blk.set {W : World} {g t m n : Nat} {V V' : Nat → Value} (h : Blk W g t m n V) (i : Nat) (hi : i < m) (u : Value) (n' : Nat) (hV : ∀ j, j < n' → V' j = if j = i then u else V j) (hn : ∀ j, j < n' → j = i ∨ j < n) : Blk (W.setCell ⟨g, i, none⟩ u) g t m n' V' := by
 obtain ⟨cur, h1, h2, h3⟩ := h
 refine ⟨cur.setIfInBounds i u, blk_set h1 i u, by simpa using h2, fun j hj => ?_⟩
 rw [Array.getElem?_setIfInBounds, hV j hj]
 by_cases e : j = i
 rotate_left
 ·rw [if_neg (fun e' => e e'.symm), if_neg e]
  exact h3 j ((hn j hj).resolve_left e)
 subst e
 rw [if_pos rfl, if_pos rfl, if_pos (by omega)]
theorem R_blk {w : World} {base e n : Nat} {ok : Nat → Prop} {v : Value} {z : Int} (h : (Kd.int .i64).R e w base ok v (List.replicate n z)) (hn : 0 < n) :
  ∃ g cap, v = .slice (some ⟨g, 0, none⟩) n cap ∧ base ≤ g ∧ n ≤ cap ∧ Blk w g e cap n (fun _ => .int .i64 z) := by
 obtain ⟨h0, inner, ⟨hl, ho⟩, hr⟩ := h
 rw [List.length_replicate] at hl ho
 rcases ho with ⟨_, h1⟩ | ⟨g, cap, cur, rfl, hb, hh, h1, h2, h3, h4⟩
 ·omega
 ·have e1 : (Kd.int .i64).sz = 1 := rfl
  rw [e1] at h3 h4
  refine ⟨g, cap, rfl, hb, h1, cur, hh, by omega, fun i hi => ?_⟩
  have h5 := hr.2 i z (by rw [List.getElem?_replicate, if_pos hi])
  have h6 : (inner.drop (i * 1)).take 1 = [.int .i64 z] := h5
  rw [← h4, Nat.mul_one, Nat.mul_one] at h6
  have h7 : (cur.toList.take n)[i]? = some (.int .i64 z) := by
   have h8 := congrArg (fun l => l[0]?) h6
   simpa [List.getElem?_take, List.getElem?_drop] using h8
  rw [List.getElem?_take, if_pos hi] at h7
  simpa using h7
theorem S_blk {w : World} {base e n : Nat} {ok : Nat → Prop} {v : Value} {x : List Int} (h : (Kd.slice 3 (Kd.int .i64)).S e w base ok v (List.replicate n x)) (hn : 0 < n) :
  ∃ g cap, v = .slice (some ⟨g, 0, none⟩) n cap ∧ base ≤ g ∧ (n ≤ cap ∧ cap ≤ maxLen) ∧ Blk w g e cap 0 (fun _ => .nilIface) := by
 obtain ⟨h0, inner, ⟨hl, ho⟩, hr⟩ := Kd.S_R h
 rw [List.length_replicate] at hl ho
 rcases ho with ⟨_, h1⟩ | ⟨g, cap, cur, rfl, hb, hh, h1, h2, h3, h4⟩
 ·omega
 ·have e1 : (Kd.slice 3 (Kd.int .i64)).sz = 1 := rfl
  rw [e1] at h3 h4
  exact ⟨g, cap, rfl, hb, ⟨h1, h2⟩, cur, hh, by omega, fun i hi => absurd hi (by omega)⟩
theorem ne_new {w1 : World} {ga gr t m n c k : Nat} {V : Nat → Value} (h : Blk w1 ga t m n V) (hnew : ∃ b, (Value.slice (some ⟨gr, 0, none⟩) k c).ownBlock = some b ∧ w1.heap.size ≤ b) : ga ≠ gr := by
 obtain ⟨b, e, hle⟩ := hnew
 have e2 : gr = b := by simpa [Value.ownBlock] using e
 have := h.lt
 omega
/-- Row i of the table: the segment of block ga from i * m on. -/
def seg (ga m i : Nat) : Value := .slice (some ⟨ga, i * m, none⟩) m m
/-- The operation that takes y over instead of x, and its cost. -/
def opOf (x y : S50) : Int := if (x.f0.toList == y.f0.toList && (x.f1 == y.f1 && (x.f2 == y.f2 && (x.f3 == y.f3 && (x.f4 == y.f4))))) = true then 1 else if x.f0.toList = y.f0.toList then 2 else 3
def costOf (op : Int) : Int := if op = 1 then 0 else if op = 2 then 1 else 3
theorem opOf_is (x y : S50) : opOf x y = 1 ∨ opOf x y = 2 ∨ opOf x y = 3 := by
 unfold opOf
 split
 ·exact .inl rfl
 ·split
  ·exact .inr (.inl rfl)
  ·exact .inr (.inr rfl)
theorem taking_is (x y : S50) : compare_taking.f x.f0 x.f1 x.f2 x.f3 x.f4 y.f0 y.f1 y.f2 y.f3 y.f4 = some (opOf x y) := by
 unfold compare_taking.f opOf
 split
 ·rfl
 ·split <;> rfl
theorem cost_op (op : Int) (h : op = 1 ∨ op = 2 ∨ op = 3) : compare_Cost.f 3 op = some (costOf op) := by
 rcases h with rfl | rfl | rfl <;> rfl
theorem cost_4 : compare_Cost.f 3 4 = some 2 := rfl
theorem cost_5 : compare_Cost.f 3 5 = some 2 := rfl
/-- One row of distances out of the one behind it. -/
def Dgo (x : S50) (Da : List S50 → Int) (la : Nat) : List S50 → Int
 | [] => 2 * ((la : Int) + 1)
 | y :: b => mn (mn (costOf (opOf x y) + Da b) (2 + Dgo x Da la b)) (2 + Da (y :: b))
/-- The least cost. -/
def D : List S50 → List S50 → Int
 | [], b => 2 * (b.length : Int)
 | x :: a, b => Dgo x (D a) a.length b
theorem D_bd : ∀ a b : List S50, 0 ≤ D a b ∧ D a b ≤ 2 * ((a.length : Int) + (b.length : Int))
 | [], b => by unfold D; simp; omega
 | x :: a, b => by
  have ha := D_bd a
  unfold D
  induction b with
  | nil => unfold Dgo; simp; omega
  | cons y b ih =>
   have h1 := ha b
   have h2 := ha (y :: b)
   unfold Dgo
   have h3 : 0 ≤ costOf (opOf x y) ∧ costOf (opOf x y) ≤ 3 := by unfold costOf; split <;> (try split) <;> omega
   simp only [List.length_cons] at h1 h2 ih ⊢
   push_cast at h1 h2 ih ⊢
   unfold mn
   split <;> split <;> omega
theorem D_nil (b : List S50) : D [] b = 2 * (b.length : Int) := rfl
theorem D_end (a : List S50) : D a [] = 2 * (a.length : Int) := by
 cases a with
 | nil => rfl
 | cons x a => unfold D Dgo; simp
theorem D_cons (x y : S50) (a b : List S50) : D (x :: a) (y :: b) = mn (mn (costOf (opOf x y) + D a b) (2 + D (x :: a) b)) (2 + D a (y :: b)) := rfl
/-- The distances from i and k on. -/
def Dik (l0 l1 : List S50) (i k : Nat) : Int := D (l0.drop i) (l1.drop k)
theorem Dik_step (l0 l1 : List S50) (i k : Nat) (hi : i < l0.length) (hk : k < l1.length) :
  Dik l0 l1 i k = mn (mn (costOf (opOf (rd_T50 l0 i) (rd_T50 l1 k)) + Dik l0 l1 (i + 1) (k + 1)) (2 + Dik l0 l1 i (k + 1))) (2 + Dik l0 l1 (i + 1) k) := by
 unfold Dik
 have e0 : l0.drop i = rd_T50 l0 i :: l0.drop (i + 1) := by
  rw [List.drop_eq_getElem_cons hi]; congr 1; unfold rd_T50; simp [List.getD_eq_getElem?_getD, hi]
 have e1 : l1.drop k = rd_T50 l1 k :: l1.drop (k + 1) := by
  rw [List.drop_eq_getElem_cons hk]; congr 1; unfold rd_T50; simp [List.getD_eq_getElem?_getD, hk]
 rw [e0, e1, D_cons]
theorem Dik_bd (l0 l1 : List S50) (i k : Nat) (h0 : l0.length ≤ 30) (h1 : l1.length ≤ 30) : 0 ≤ Dik l0 l1 i k ∧ Dik l0 l1 i k ≤ 120 := by
 have := D_bd (l0.drop i) (l1.drop k)
 unfold Dik
 simp only [List.length_drop] at this
 omega
theorem Dik_bottom (l0 l1 : List S50) (k : Nat) (hk : k ≤ l1.length) : Dik l0 l1 l0.length k = 2 * ((l1.length : Int) - (k : Int)) := by
 unfold Dik
 rw [List.drop_length, D_nil, List.length_drop]; omega
theorem Dik_right (l0 l1 : List S50) (i : Nat) (hi : i ≤ l0.length) : Dik l0 l1 i l1.length = 2 * ((l0.length : Int) - (i : Int)) := by
 unfold Dik
 rw [List.drop_length, D_end, List.length_drop]; omega
def compare_table.T17 : Bool × List (List Nat × List Nat) := (true, [([], []), ([], []), ([0, 1], [0, 1]), ([2], [2]), ([], []), ([], []), ([], []), ([6], [6]), ([], []), ([7, 8], [7, 8]), ([5, 9], [5, 9]), ([3, 4, 0, 1, 2, 3, 4, 5, 6, 7, 8, 9, 10], [3, 4]), ([11, 10, 5, 0, 1, 2, 3, 4, 5, 6, 7, 8, 9, 10], [10, 11])])
def compare_table.B17 : List Nat := [0, 0, 3, 7, 0, 0, 0, 64, 0, 448, 992, 2047, 4095]
theorem compare_table.tab17 : rtab .any (opsOf Try.f33 17) = compare_table.T17 := by kernel_rfl
theorem compare_table.bits17 : waitsOk compare_table.T17.2 compare_table.B17 = true := by kernel_rfl
def compare_table.T19 : Bool × List (List Nat × List Nat) := (true, [([], []), ([], []), ([0, 1], [0, 1]), ([2], [2]), ([], []), ([], []), ([], []), ([6], [6]), ([], []), ([7, 8], [7, 8]), ([5, 9], [5, 9]), ([3, 4, 0, 1, 2, 3, 4, 5, 6, 7, 8, 9, 10], [3, 4]), ([11, 10, 5, 0, 1, 2, 3, 4, 5, 6, 7, 8, 9, 10], [10, 11])])
def compare_table.B19 : List Nat := [0, 0, 3, 7, 0, 0, 0, 64, 0, 448, 992, 2047, 4095]
theorem compare_table.tab19 : rtab .any (opsOf Try.f33 19) = compare_table.T19 := by kernel_rfl
theorem compare_table.bits19 : waitsOk compare_table.T19.2 compare_table.B19 = true := by kernel_rfl
def compare_table.T15 : Bool × List (List Nat × List Nat) := (true, [([], []), ([], []), ([0, 1], [0, 1]), ([2], [2]), ([], []), ([], []), ([], []), ([5, 6], [5, 6]), ([7], [7]), ([], []), ([], []), ([9, 10], [9, 10]), ([11], [11]), ([8, 12], [8, 12]), ([13, 13], [13]), ([], []), ([], []), ([16], [16]), ([15, 17], [15, 17]), ([18], [18]), ([], []), ([20], [20]), ([19, 21], [19, 21]), ([22], [22]), ([14, 23], [14, 23]), ([14], []), ([], []), ([], []), ([26, 27], [26, 27]), ([28], [28]), ([], []), ([30], [30]), ([29, 31], [29, 31]), ([32], [32]), ([25, 33], [25, 33]), ([25], []), ([], []), ([], []), ([37], [37]), ([36, 38], [36, 38]), ([39], [39]), ([], []), ([40, 41], [40, 41]), ([42], [42]), ([35, 43], [35, 43]), ([24, 34, 44], [24, 34, 44]), ([3, 4, 0, 1, 2, 3, 4, 5, 6, 7, 8, 9, 10, 11, 12, 13, 14, 15, 16, 17, 18, 19, 20, 21, 22, 23, 24, 25, 26, 27, 28, 29, 30, 31, 32, 33, 34, 35, 36, 37, 38, 39, 40, 41, 42, 43, 44, 45], [3, 4]), ([46, 45, 35, 0, 1, 2, 3, 4, 5, 6, 7, 8, 9, 10, 11, 12, 13, 14, 15, 16, 17, 18, 19, 20, 21, 22, 23, 24, 25, 26, 27, 28, 29, 30, 31, 32, 33, 34, 35, 36, 37, 38, 39, 40, 41, 42, 43, 44, 45], [45, 46])])
def compare_table.B15 : List Nat := [0, 0, 3, 7, 0, 0, 0, 96, 224, 0, 0, 1536, 3584, 8160, 16352, 0, 0, 65536, 229376, 491520, 0, 1048576, 4161536, 8355840, 16777184, 32736, 0, 0, 201326592, 469762048, 0, 1073741824, 4227858432, 8522825728, 17146347488, 33587168, 0, 0, 137438953472, 481036337152, 1030792151040, 0, 4329327034368, 8727373545472, 17557859893216, 35184372088800, 70368744177663, 140737488355327]
theorem compare_table.tab15 : rtab .any (opsOf Try.f33 15) = compare_table.T15 := by kernel_rfl
theorem compare_table.bits15 : waitsOk compare_table.T15.2 compare_table.B15 = true := by kernel_rfl
/-- The table's two blocks. -/
def Tab (W : World) (gr ga cr ca la lb : Nat) (F2 : Nat → Int) : Prop := Blk W gr 45 cr (la + 1) (seg ga (lb + 1)) ∧ Blk W ga 3 ca ((la + 1) * (lb + 1)) (fun j => .int .i64 (F2 j))
theorem Tab.below {W W1 : World} {gr ga cr ca la lb : Nat} {F2 : Nat → Int} (h : Tab W gr ga cr ca la lb F2) (hb : Below W.heap.size W W1) : Tab W1 gr ga cr ca la lb F2 := ⟨h.1.below hb, h.2.below hb⟩
theorem Tab.drewN {W : World} {gr ga cr ca la lb : Nat} {F2 : Nat → Int} (h : Tab W gr ga cr ca la lb F2) (n : Nat) : Tab (W.drewN n) gr ga cr ca la lb F2 := h
theorem w64 {x : Int} (h0 : -9223372036854775808 ≤ x) (h1 : x ≤ 9223372036854775807) : wrap64 x = x := by unfold wrap64; omega
theorem flat_lt {i k la lb : Nat} (hi : i ≤ la) (hk : k ≤ lb) : i * (lb + 1) + k < (la + 1) * (lb + 1) := by
 have h1 : i * (lb + 1) ≤ la * (lb + 1) := Nat.mul_le_mul_right _ hi
 rw [Nat.add_mul]; omega
theorem flat_inj {i k i' k' lb : Nat} (hk : k ≤ lb) (hk' : k' ≤ lb) (h : i * (lb + 1) + k = i' * (lb + 1) + k') : i = i' ∧ k = k' := by
 have h1 : (i * (lb + 1) + k) / (lb + 1) = i := by rw [Nat.add_comm, Nat.add_mul_div_right _ _ (by omega), Nat.div_eq_of_lt (by omega)]; omega
 have h2 : (i' * (lb + 1) + k') / (lb + 1) = i' := by rw [Nat.add_comm, Nat.add_mul_div_right _ _ (by omega), Nat.div_eq_of_lt (by omega)]; omega
 rw [h] at h1
 have h3 : i = i' := by omega
 subst h3
 exact ⟨rfl, by omega⟩
/-- One more cell is told. -/
theorem Tab.set {W : World} {gr ga cr ca la lb : Nat} {F2 : Nat → Int} (h : Tab W gr ga cr ca la lb F2) (hne : ga ≠ gr) (hca : (la + 1) * (lb + 1) ≤ ca) (i k : Nat) (hi : i ≤ la) (hk : k ≤ lb) (x : Int) :
  Tab (W.setCell ⟨ga, i * (lb + 1) + k, none⟩ (.int .i64 x)) gr ga cr ca la lb (fun j => if j = i * (lb + 1) + k then x else F2 j) := by
 refine ⟨h.1.far (fun e => hne e.symm) _, h.2.set _ (Nat.lt_of_lt_of_le (flat_lt hi hk) hca) _ _ (fun j hj => ?_) (fun j hj => .inr hj)⟩
 by_cases e : j = i * (lb + 1) + k
 rotate_left
 ·rw [if_neg e]; show Value.int .i64 (if j = _ then x else F2 j) = _; rw [if_neg e]
 rw [if_pos e]; show Value.int .i64 (if j = _ then x else F2 j) = _; rw [if_pos e]
theorem told {l0 l1 : List S50} {i k : Nat} (F2 : Nat → Int) (v : Int) (y : Int) (hD : ∀ i' k' : Nat, i < i' ∨ (i = i' ∧ y < (k' : Int)) → i' ≤ l0.length → k' ≤ l1.length → F2 (i' * (l1.length + 1) + k') = Dik l0 l1 i' k') (hi : i ≤ l0.length) (hk : k ≤ l1.length) (hv : Dik l0 l1 i k = v) (hy : y = k := by rfl) :
  ∀ i' k' : Nat, i < i' ∨ (i = i' ∧ (k : Int) - 1 < (k' : Int)) → i' ≤ l0.length → k' ≤ l1.length → (fun j => if j = i * (l1.length + 1) + k then v else F2 j) (i' * (l1.length + 1) + k') = Dik l0 l1 i' k' := by
 intro i' k' h1 h2 h3
 show (if i' * (l1.length + 1) + k' = i * (l1.length + 1) + k then v else F2 (i' * (l1.length + 1) + k')) = _
 by_cases e : i' * (l1.length + 1) + k' = i * (l1.length + 1) + k
 ·rw [if_pos e]
  obtain ⟨rfl, rfl⟩ := flat_inj h3 hk e
  exact hv.symm
 rw [if_neg e]
 refine hD i' k' ?_ h2 h3
 rcases h1 with h1 | ⟨rfl, h1⟩
 ·exact .inl h1
 ·refine .inr ⟨rfl, ?_⟩
  have : k' ≠ k := fun e' => e (by rw [e'])
  omega
set_option maxHeartbeats 8000000 in
set_option maxRecDepth 100000 in
theorem table_walk (A0 : Option Addr) (c0 : Nat) (l0 : List S50) (A1 : Option Addr) (c1 : Nat) (l1 : List S50) (w : World) (hr0 : Kd.C k50 w A0 l0.length l0) (hc0 : l0.length ≤ c0) (hr1 : Kd.C k50 w A1 l1.length l1) (hc1 : l1.length ≤ c1)
  (h0 : l0.length ≤ 30) (h1 : l1.length ≤ 30) (Q : Ending → World → Prop)
  (hQ : ∀ gr ga cr ca F2 w', Tab w' gr ga cr ca l0.length l1.length F2 → (∀ i k : Nat, i ≤ l0.length → k ≤ l1.length → F2 (i * (l1.length + 1) + k) = Dik l0 l1 i k) → ga ≠ gr → w.heap.size ≤ ga → w.heap.size ≤ gr → (l0.length + 1 ≤ cr ∧ cr ≤ maxLen) → Below w.heap.size w w' →
   Q (.returned (.slice (some ⟨gr, 0, none⟩) (l0.length + 1) cr)) w') :
  Calls Try.prog 33 #[.slice A0 l0.length c0, .slice A1 l1.length c1] w Q := by
 have HQ := aS hQ
 clear hQ
 have hu50 := Try.underlying50
 have HR0 := aS hr0
 have HR1 := aS hr1
 clear hr0 hr1
 have HB := aS (Below.refl w.heap.size w)
 have h2 : 0 ≤ ((l0.length : Int) + 1) * ((l1.length : Int) + 1) := Int.mul_nonneg (by omega) (by omega)
 have h3 : ((l0.length : Int) + 1) * ((l1.length : Int) + 1) ≤ 31 * 31 := Int.mul_le_mul (by omega) (by omega) (by omega) (by omega)
 have hN : (((l0.length : Int) + 1) * ((l1.length : Int) + 1)).toNat = (l0.length + 1) * (l1.length + 1) := by
  rw [show ((l0.length : Int) + 1) * ((l1.length : Int) + 1) = (((l0.length + 1) * (l1.length + 1) : Nat) : Int) by push_cast; rfl, Int.toNat_natCast]
 have hN1 : ((l0.length : Int) + 1).toNat = l0.length + 1 := by omega
 have HN0 := aS hN
 have HN1 := aS hN1
 clear hN hN1
 go_enter Try.func33, Try.ntmps33
 go_wp2_with (first
  | ((with_reducible refine gate_dst (N := 19) rfl ?_); refine Kd.R_make (Kd.int .i64) (w0 := w) w.heap.size 3 rfl (N := 19) rfl 45 _ _ rfl (((l0.length : Int) + 1) * ((l1.length : Int) + 1)) rfl rfl Try.underlying45 (.int .i64 0) 8 info3 rfl (by decide) (by omega) 0 (ok := fun _ => True) (okp := fun _ => True) rfl (fun _ hk => hk) trivial h2 (by omega) HB.out (Nat.le_refl _) ?_; intro v6 w1 hoA hb hg hnew; rw [HN0.out] at hoA; obtain ⟨ga, ca, rfl, hga, hca, hka⟩ := R_blk hoA (Nat.mul_pos (by omega) (by omega)); have HGA := aS hga; have HCA := aS hca; have HKA := aS hka; have HB1 := aS hb; clear hoA hb hg hnew hga hca hka)
  | ((with_reducible refine gate_dst (N := 23) rfl ?_); refine Kd.S_make (Kd.slice 3 (Kd.int .i64)) (w0 := w) w.heap.size 45 rfl (N := 23) rfl 60 _ _ rfl ((l0.length : Int) + 1) rfl rfl Try.underlying60 (.slice none 0 0) 24 info45h rfl (by decide) (by omega) [] (ok := fun _ => True) (okp := fun _ => True) ⟨_, rfl, Kd.R_nil _ _ _ _ _⟩ (fun _ hk => hk) trivial (by omega) (by omega) HB1.out HB1.out.size ?_; intro v7 w2 hoR hb hg hnew; rw [HN1.out] at hoR; obtain ⟨gr, cr, rfl, hgr, hcr, hkr⟩ := S_blk hoR (by omega); have HCR := aS hcr; have HGR := aS hgr; have HKR := aS hkr; have HB2 := aS hb; have HNE := aS (ne_new HKA.out hnew); have HKA2 := aS (HKA.out.grown hg); clear hoR hb hg hnew hgr hcr hkr))
 go_loopg [26] (l0.length + 1) (fun gg s26 wr => ∃ i : Nat, i ≤ l0.length + 1 ∧ l0.length + 1 - i ≤ gg ∧ s26 = .int .i64 i ∧ Aside0 (Blk wr gr 45 cr i (seg ga (l1.length + 1))) ∧ Aside0 (Blk wr ga 3 ca ((l0.length + 1) * (l1.length + 1)) (fun _ => .int .i64 0)) ∧ Aside0 (Below w.heap.size w wr))
 case atStart => exact ⟨0, by omega, by omega, rfl, ⟨by obtain ⟨cur, a, b, _⟩ := HKR.out; exact ⟨cur, a, b, fun i hi => absurd hi (by omega)⟩⟩, HKA2, HB2⟩
 case round =>
  obtain ⟨i, hi, hg, rfl, KR, KA, HBr⟩ := hrel
  by_cases hlt : i < l0.length + 1
  ·have hltz : (i : Int) < (l0.length : Int) + 1 := by omega
   have e1 : 0 ≤ (i : Int) * ((l1.length : Int) + 1) := Int.mul_nonneg (by omega) (by omega)
   have e2 : (i : Int) * ((l1.length : Int) + 1) ≤ ((i : Int) + 1) * ((l1.length : Int) + 1) := Int.mul_le_mul_of_nonneg_right (by omega) (by omega)
   have e3 : ((i : Int) + 1) * ((l1.length : Int) + 1) ≤ ((l0.length : Int) + 1) * ((l1.length : Int) + 1) := Int.mul_le_mul_of_nonneg_right (by omega) (by omega)
   have e4 : ((l0.length : Int) + 1) * ((l1.length : Int) + 1) ≤ (ca : Int) := by have := HCA.out; exact_mod_cast this
   have e5 : 0 ≤ ((i : Int) + 1) * ((l1.length : Int) + 1) := by omega
   obtain ⟨u, hu⟩ := KR.out.has i (by have := HCR.out.1; omega)
   have hf := KR.out.frozen i
   have e6 : ((i : Int) + 1) * ((l1.length : Int) + 1) ≤ (ca : Int) := by omega
   have e7 : ((i : Int) + 1) * ((l1.length : Int) + 1) ≤ 961 := by omega
   have e8 : (i : Int) * ((l1.length : Int) + 1) ≤ 961 := by omega
   have e9 : (i + 1) * (l1.length + 1) - i * (l1.length + 1) = l1.length + 1 := by rw [Nat.add_mul]; omega
   go_wp2
   go_roundg (l0.length + 1 - (i + 1))
   case measure => omega
   case rel =>
    refine ⟨i + 1, by omega, by omega, by go_num, ⟨KR.out.set i (by have := HCR.out.1; omega) _ (i + 1) (fun j hj => ?_) (fun j hj => by omega)⟩, ⟨KA.out.far HNE.out _⟩, ⟨below_set HBr.out HGR.out⟩⟩
    by_cases e : j = i
    rotate_left
    ·rw [if_neg e]
    subst e; rw [if_pos rfl]; rfl
  have hie : i = l0.length + 1 := by omega
  subst hie
  have hltz : ¬ (((l0.length + 1 : Nat) : Int) < (l0.length : Int) + 1) := by omega
  have TB0 := aS (show Tab wr gr ga cr ca l0.length l1.length (fun _ => 0) from ⟨KR.out, KA.out⟩)
  clear KR KA h2 h3
  go_wp2
  go_loopg [9] (l0.length + 2) (fun gg s9 wr => ∃ (x : Int) (F2 : Nat → Int), -1 ≤ x ∧ x ≤ l0.length ∧ (x + 1).toNat ≤ gg ∧ s9 = .int .i64 x ∧ Aside0 (Tab wr gr ga cr ca l0.length l1.length F2) ∧ Aside0 (∀ i k : Nat, x < (i : Int) → i ≤ l0.length → k ≤ l1.length → F2 (i * (l1.length + 1) + k) = Dik l0 l1 i k) ∧ Aside0 (Below w.heap.size w wr))
  case atStart => exact ⟨(l0.length : Int), fun _ => 0, by omega, by omega, by omega, rfl, TB0, ⟨fun i k h1 h2 h3 => by omega⟩, HBr⟩
  case round =>
   clear TB0 HBr hltz hg
   obtain ⟨x, F2, hx1, hx2, hg2, rfl, TB, HD, HBs⟩ := hrel
   by_cases hx : 0 ≤ x
   rotate_left
   ·have hxz : ¬ (0 ≤ x) := hx
    have hdone : ∀ i' k' : Nat, i' ≤ l0.length → k' ≤ l1.length → F2 (i' * (l1.length + 1) + k') = Dik l0 l1 i' k' := fun i' k' h1 h2 => HD.out i' k' (by omega) h1 h2
    have HD2 := aS hdone
    clear hdone
    go_wp2
    exact HQ.out gr ga cr ca F2 _ TB.out HD2.out HNE.out HGA.out HGR.out HCR.out HBs.out

   obtain ⟨i, rfl⟩ : ∃ i : Nat, x = i := ⟨x.toNat, by omega⟩
   have hi : i ≤ l0.length := by omega
   clear hx1 hx2
   go_wp2
   go_loopg [10] (l1.length + 2) (fun gg s10 wr => ∃ (y : Int) (F2 : Nat → Int), -1 ≤ y ∧ y ≤ l1.length ∧ (y + 1).toNat ≤ gg ∧ s10 = .int .i64 y ∧ Aside0 (Tab wr gr ga cr ca l0.length l1.length F2) ∧ Aside0 (∀ i' k : Nat, i < i' ∨ (i = i' ∧ y < (k : Int)) → i' ≤ l0.length → k ≤ l1.length → F2 (i' * (l1.length + 1) + k) = Dik l0 l1 i' k) ∧ Aside0 (Below w.heap.size w wr))
   case atStart => exact ⟨(l1.length : Int), F2, by omega, by omega, by omega, rfl, TB, ⟨fun i' k h1 h2 h3 => HD.out i' k (by omega) h2 h3⟩, HBs⟩
   case round =>
    clear TB HBs HD
    obtain ⟨y, F2, hy1, hy2, hg3, rfl, TB, HD, HBs⟩ := hrel
    by_cases hy : 0 ≤ y
    rotate_left
    ·have hyz : ¬ (0 ≤ y) := hy
     have hdone : ∀ i' k' : Nat, (i : Int) - 1 < (i' : Int) → i' ≤ l0.length → k' ≤ l1.length → F2 (i' * (l1.length + 1) + k') = Dik l0 l1 i' k' := fun i' k' h1 h2 h3 => HD.out i' k' (by omega) h2 h3
     have HD2 := aS hdone
     clear hdone
     go_wp2
     go_roundg i
     case measure => omega
     case rel => exact ⟨(i : Int) - 1, F2, by omega, by omega, by omega, by go_num, TB, HD2, HBs⟩
    obtain ⟨k, rfl⟩ : ∃ k : Nat, y = k := ⟨y.toNat, by omega⟩
    have hk : k ≤ l1.length := by omega
    clear hy1 hy2
    have hiz : (i : Int) < (l0.length : Int) + 1 := by omega
    by_cases hA : i = l0.length
    ·subst hA
     have hkz : (k : Int) < (l1.length : Int) + 1 := by omega
     have hk0 : (k : Int) ≤ (l1.length : Int) := by omega
     obtain ⟨u, hu⟩ := TB.out.2.has _ (Nat.lt_of_lt_of_le (flat_lt hi hk) HCA.out)
     have hf := TB.out.2.frozen (l0.length * (l1.length + 1) + k)
     go_wp2
     refine start_ (n := 13) (S := fun w' => w'.cell? ⟨gr, l0.length, none⟩ = some (.slice (some ⟨ga, (l0.length) * (l1.length + 1), none⟩) (l1.length + 1) (l1.length + 1))) (ds := [12]) #[false, false, false, false, false, false, false, false, false, false, false, false, false] (by kernel_rfl) rfl rfl ((TB.out.1.cell l0.length (by omega))) (fun hHeld => ?_)
     refine with_tabW compare_table.tab17 compare_table.bits17 (fun HT_ HW_ => ?_)
     refine pure_ (i := 0) (N := some 110) (v := ?_) (a' := ?_) (bs 13 1) rfl rfl (any_of HT_.out (by kernel_rfl)) (fun _ _ _ h => h) (Or.inl ⟨by rfl, ?_⟩) ?_ ?_
     rotate_left
     ·intro w'
      go_simp
      with_reducible rfl
     rotate_left
     ·simp only [Act.put, sA, sZ, sS, i64_w, i32_w]
      rfl
     refine pure_ (i := 1) (N := some 111) (v := ?_) (a' := ?_) (bs 13 3) rfl rfl (any_of HT_.out (by kernel_rfl)) (fun _ _ _ h => h) (Or.inl ⟨by rfl, ?_⟩) ?_ ?_
     rotate_left
     ·intro w'
      go_simp
      with_reducible rfl
     rotate_left
     ·simp only [Act.put, sA, sZ, sS, i64_w, i32_w]
      rfl
     refine pure_ (i := 2) (N := some 112) (v := ?_) (a' := ?_) (bs 13 7) rfl rfl (any_of HT_.out (by kernel_rfl)) (fun _ _ _ h => h) (Or.inl ⟨by rfl, ?_⟩) ?_ ?_
     rotate_left
     ·intro w'
      go_simp
      with_reducible rfl
     rotate_left
     ·simp only [Act.put, sA, sZ, sS, i64_w, i32_w]
      rfl
     refine pure_ (i := 4) (N := some 114) (v := ?_) (a' := ?_) (bs 13 23) rfl rfl (any_of HT_.out (by kernel_rfl)) (fun _ _ _ h => h) (Or.inl ⟨by rfl, ?_⟩) ?_ ?_
     rotate_left
     ·intro w'
      go_simp
      with_reducible rfl
     rotate_left
     ·simp only [Act.put, sA, sZ, sS, i64_w, i32_w]
      rfl
     refine pure_ (i := 6) (N := some 116) (v := ?_) (a' := ?_) (bs 13 87) rfl rfl (any_of HT_.out (by kernel_rfl)) (fun _ _ _ h => h) (Or.inl ⟨by rfl, ?_⟩) ?_ ?_
     rotate_left
     ·intro w'
      go_simp
      with_reducible rfl
     rotate_left
     ·simp only [Act.put, sA, sZ, sS, i64_w, i32_w]
      rfl
     refine pure_ (i := 7) (N := some 117) (v := ?_) (a' := ?_) (bs 13 215) rfl rfl (any_of HT_.out (by kernel_rfl)) (fun _ _ _ h => h) (Or.inl ⟨by rfl, ?_⟩) ?_ ?_
     rotate_left
     ·intro w'
      go_simp
      with_reducible rfl
     rotate_left
     ·simp only [Act.put, sA, sZ, sS, i64_w, i32_w]
      rfl
     refine pure_ (i := 8) (N := some 118) (v := ?_) (a' := ?_) (bs 13 471) rfl rfl (any_of HT_.out (by kernel_rfl)) (fun _ _ _ h => h) (Or.inl ⟨by rfl, ?_⟩) ?_ ?_
     rotate_left
     ·intro w'
      go_simp
      with_reducible rfl
     rotate_left
     ·simp only [Act.put, sA, sZ, sS, i64_w, i32_w]
      rfl
     refine pure_ (i := 9) (N := some 119) (v := ?_) (a' := ?_) (bs 13 983) rfl rfl (any_of HT_.out (by kernel_rfl)) (fun _ _ _ h => h) (Or.inl ⟨by rfl, ?_⟩) ?_ ?_
     rotate_left
     ·intro w'
      go_simp
      with_reducible rfl
     rotate_left
     ·simp only [Act.put, sA, sZ, sS, i64_w, i32_w]
      rfl
     refine take_ (i := 3) (N := some 113) (v := ?_) (a' := ?_) (bs 13 991) rfl rfl (take_ofW HT_.out HW_.out (by kernel_rfl)) (fun _ _ _ h => h) (Or.inl ⟨by rfl, ?_⟩) hHeld ?_ ?_
     rotate_left
     ·intro w' s0
      go_simp
      with_reducible rfl
     rotate_left
     ·simp only [Act.put, sA, sZ, sS, i64_w, i32_w]
      rfl
     refine one_ (i := 5) (N := some 115) (bs 13 1023) rfl rfl (one_of HT_.out (by kernel_rfl)) (by decide) (fun K hK => ?_)
     refine goes_ Try.func30 (by kernel_rfl) rfl #[.int .i64 4] (by rfl) rfl rfl (by simp only [List.map_toArray, List.map_cons, List.map_nil]; rfl) ?_
     with_reducible refine (compare_Cost.calls 3 4 2 _ cost_4).mono ?_
     rintro e w3 ⟨rfl, ⟨nd, rfl⟩⟩
     refine ⟨_, rfl, ?_⟩
     refine hK.out _ _ (hHeld) (fun hHeld => ?_)
     clear hK K
     refine norm_ (a' := ?_) ?_ ?_
     rotate_left
     ·show Act.put _ (some 115) _ = _
      simp only [Act.put, sA, sZ, sS, i64_w, i32_w]
      rfl
     refine pure_ (i := 10) (N := some 120) (v := ?_) (a' := ?_) (bs 13 2047) rfl rfl (any_of HT_.out (by kernel_rfl)) (fun _ _ _ h => h) (Or.inl ⟨by rfl, ?_⟩) ?_ ?_
     rotate_left
     ·intro w'
      go_simp
      with_reducible rfl
     rotate_left
     ·simp only [Act.put, sA, sZ, sS, i64_w, i32_w]
      rfl
     refine pure_ (i := 11) (N := some 121) (v := ?_) (a' := ?_) (bs 13 4095) rfl rfl (any_of HT_.out (by kernel_rfl)) (fun _ _ _ h => h) (Or.inl ⟨by rfl, ?_⟩) ?_ ?_
     rotate_left
     ·intro w'
      go_simp
      with_reducible rfl
     rotate_left
     ·simp only [Act.put, sA, sZ, sS, i64_w, i32_w]
      rfl
     refine last_ (i := 12) (N := none) #[true, true, true, true, true, true, true, true, true, true, true, true, true] rfl rfl (one_of HT_.out (by kernel_rfl)) (by decide) (fun K hK => ?_)
     refine skip_ (w1 := ?_) (by rfl) rfl ?_ ?_
     rotate_left
     ·go_simp
      rfl
     refine hK.out _ _ ?_
     clear hK K
     refine done_ (done_of HT_.out (by kernel_rfl)) ?_
     go_wp2
     go_roundg k
     case measure => omega
     case rel =>
      refine ⟨(k : Int) - 1, (fun j => if j = l0.length * (l1.length + 1) + k then wrap64 (2 * wrap64 ((l1.length : Int) - (k : Int))) else F2 j), by omega, by omega, by omega, by go_num, ⟨Tab.set (Tab.drewN TB.out _) HNE.out HCA.out _ k (by omega) hk _⟩, ⟨?_⟩, ⟨below_set (pw_below_drewN HBs.out _) HGA.out⟩⟩
      exact told F2 _ _ HD.out (Nat.le_refl _) hk (by rw [Dik_bottom l0 l1 k hk, w64 (x := (l1.length : Int) - (k : Int)) (by omega) (by omega), w64 (by omega) (by omega)])
    have hAi : i < l0.length := by omega
    have hAb : ((i : Int) == (l0.length : Int)) = false := by rw [beq_eq_false_iff_ne]; omega
    have hkz : (k : Int) < (l1.length : Int) + 1 := by omega
    have hk0 : (k : Int) ≤ (l1.length : Int) := by omega
    have hi0 : (i : Int) ≤ (l0.length : Int) := by omega
    obtain ⟨u, hu⟩ := TB.out.2.has _ (Nat.lt_of_lt_of_le (flat_lt hi hk) HCA.out)
    have hf := TB.out.2.frozen (i * (l1.length + 1) + k)
    by_cases hB : k = l1.length
    ·subst hB
     go_wp2
     refine start_ (n := 13) (S := fun w' => w'.cell? ⟨gr, i, none⟩ = some (.slice (some ⟨ga, (i) * (l1.length + 1), none⟩) (l1.length + 1) (l1.length + 1))) (ds := [12]) #[false, false, false, false, false, false, false, false, false, false, false, false, false] (by kernel_rfl) rfl rfl ((TB.out.1.cell i (by omega))) (fun hHeld => ?_)
     refine with_tabW compare_table.tab19 compare_table.bits19 (fun HT_ HW_ => ?_)
     refine pure_ (i := 0) (N := some 127) (v := ?_) (a' := ?_) (bs 13 1) rfl rfl (any_of HT_.out (by kernel_rfl)) (fun _ _ _ h => h) (Or.inl ⟨by rfl, ?_⟩) ?_ ?_
     rotate_left
     ·intro w'
      go_simp
      with_reducible rfl
     rotate_left
     ·simp only [Act.put, sA, sZ, sS, i64_w, i32_w]
      rfl
     refine pure_ (i := 1) (N := some 128) (v := ?_) (a' := ?_) (bs 13 3) rfl rfl (any_of HT_.out (by kernel_rfl)) (fun _ _ _ h => h) (Or.inl ⟨by rfl, ?_⟩) ?_ ?_
     rotate_left
     ·intro w'
      go_simp
      with_reducible rfl
     rotate_left
     ·simp only [Act.put, sA, sZ, sS, i64_w, i32_w]
      rfl
     refine pure_ (i := 2) (N := some 129) (v := ?_) (a' := ?_) (bs 13 7) rfl rfl (any_of HT_.out (by kernel_rfl)) (fun _ _ _ h => h) (Or.inl ⟨by rfl, ?_⟩) ?_ ?_
     rotate_left
     ·intro w'
      go_simp
      with_reducible rfl
     rotate_left
     ·simp only [Act.put, sA, sZ, sS, i64_w, i32_w]
      rfl
     refine pure_ (i := 4) (N := some 131) (v := ?_) (a' := ?_) (bs 13 23) rfl rfl (any_of HT_.out (by kernel_rfl)) (fun _ _ _ h => h) (Or.inl ⟨by rfl, ?_⟩) ?_ ?_
     rotate_left
     ·intro w'
      go_simp
      with_reducible rfl
     rotate_left
     ·simp only [Act.put, sA, sZ, sS, i64_w, i32_w]
      rfl
     refine pure_ (i := 6) (N := some 133) (v := ?_) (a' := ?_) (bs 13 87) rfl rfl (any_of HT_.out (by kernel_rfl)) (fun _ _ _ h => h) (Or.inl ⟨by rfl, ?_⟩) ?_ ?_
     rotate_left
     ·intro w'
      go_simp
      with_reducible rfl
     rotate_left
     ·simp only [Act.put, sA, sZ, sS, i64_w, i32_w]
      rfl
     refine pure_ (i := 7) (N := some 134) (v := ?_) (a' := ?_) (bs 13 215) rfl rfl (any_of HT_.out (by kernel_rfl)) (fun _ _ _ h => h) (Or.inl ⟨by rfl, ?_⟩) ?_ ?_
     rotate_left
     ·intro w'
      go_simp
      with_reducible rfl
     rotate_left
     ·simp only [Act.put, sA, sZ, sS, i64_w, i32_w]
      rfl
     refine pure_ (i := 8) (N := some 135) (v := ?_) (a' := ?_) (bs 13 471) rfl rfl (any_of HT_.out (by kernel_rfl)) (fun _ _ _ h => h) (Or.inl ⟨by rfl, ?_⟩) ?_ ?_
     rotate_left
     ·intro w'
      go_simp
      with_reducible rfl
     rotate_left
     ·simp only [Act.put, sA, sZ, sS, i64_w, i32_w]
      rfl
     refine pure_ (i := 9) (N := some 136) (v := ?_) (a' := ?_) (bs 13 983) rfl rfl (any_of HT_.out (by kernel_rfl)) (fun _ _ _ h => h) (Or.inl ⟨by rfl, ?_⟩) ?_ ?_
     rotate_left
     ·intro w'
      go_simp
      with_reducible rfl
     rotate_left
     ·simp only [Act.put, sA, sZ, sS, i64_w, i32_w]
      rfl
     refine take_ (i := 3) (N := some 130) (v := ?_) (a' := ?_) (bs 13 991) rfl rfl (take_ofW HT_.out HW_.out (by kernel_rfl)) (fun _ _ _ h => h) (Or.inl ⟨by rfl, ?_⟩) hHeld ?_ ?_
     rotate_left
     ·intro w' s0
      go_simp
      with_reducible rfl
     rotate_left
     ·simp only [Act.put, sA, sZ, sS, i64_w, i32_w]
      rfl
     refine one_ (i := 5) (N := some 132) (bs 13 1023) rfl rfl (one_of HT_.out (by kernel_rfl)) (by decide) (fun K hK => ?_)
     refine goes_ Try.func30 (by kernel_rfl) rfl #[.int .i64 5] (by rfl) rfl rfl (by simp only [List.map_toArray, List.map_cons, List.map_nil]; rfl) ?_
     with_reducible refine (compare_Cost.calls 3 5 2 _ cost_5).mono ?_
     rintro e w3 ⟨rfl, ⟨nd, rfl⟩⟩
     refine ⟨_, rfl, ?_⟩
     refine hK.out _ _ (hHeld) (fun hHeld => ?_)
     clear hK K
     refine norm_ (a' := ?_) ?_ ?_
     rotate_left
     ·show Act.put _ (some 132) _ = _
      simp only [Act.put, sA, sZ, sS, i64_w, i32_w]
      rfl
     refine pure_ (i := 10) (N := some 137) (v := ?_) (a' := ?_) (bs 13 2047) rfl rfl (any_of HT_.out (by kernel_rfl)) (fun _ _ _ h => h) (Or.inl ⟨by rfl, ?_⟩) ?_ ?_
     rotate_left
     ·intro w'
      go_simp
      with_reducible rfl
     rotate_left
     ·simp only [Act.put, sA, sZ, sS, i64_w, i32_w]
      rfl
     refine pure_ (i := 11) (N := some 138) (v := ?_) (a' := ?_) (bs 13 4095) rfl rfl (any_of HT_.out (by kernel_rfl)) (fun _ _ _ h => h) (Or.inl ⟨by rfl, ?_⟩) ?_ ?_
     rotate_left
     ·intro w'
      go_simp
      with_reducible rfl
     rotate_left
     ·simp only [Act.put, sA, sZ, sS, i64_w, i32_w]
      rfl
     refine last_ (i := 12) (N := none) #[true, true, true, true, true, true, true, true, true, true, true, true, true] rfl rfl (one_of HT_.out (by kernel_rfl)) (by decide) (fun K hK => ?_)
     refine skip_ (w1 := ?_) (by rfl) rfl ?_ ?_
     rotate_left
     ·go_simp
      rfl
     refine hK.out _ _ ?_
     clear hK K
     refine done_ (done_of HT_.out (by kernel_rfl)) ?_
     go_wp2
     go_roundg l1.length
     case measure => omega
     case rel =>
      refine ⟨(l1.length : Int) - 1, (fun j => if j = i * (l1.length + 1) + l1.length then wrap64 (2 * wrap64 ((l0.length : Int) - (i : Int))) else F2 j), by omega, by omega, by omega, by go_num, ⟨Tab.set (Tab.drewN TB.out _) HNE.out HCA.out _ _ (by omega) hk _⟩, ⟨?_⟩, ⟨below_set (pw_below_drewN HBs.out _) HGA.out⟩⟩
      exact told F2 _ _ HD.out hi hk (by rw [Dik_right l0 l1 i hi, w64 (x := (l0.length : Int) - (i : Int)) (by omega) (by omega), w64 (by omega) (by omega)])
    have hBb : ((k : Int) == (l1.length : Int)) = false := by rw [beq_eq_false_iff_ne]; omega
    have hBk : k < l1.length := by omega
    have hiL : (i : Int) < (l0.length : Int) := by omega
    have hkL : (k : Int) < (l1.length : Int) := by omega
    obtain ⟨ad0, ea0, _, _, _, _, _⟩ := at_T50 HR0.out (i : Int) (by omega) hiL
    cases ea0
    obtain ⟨ad1, ea1, _, _, _, _, _⟩ := at_T50 HR1.out (k : Int) (by omega) hkL
    cases ea1
    have hS : ∀ w', Tab w' gr ga cr ca l0.length l1.length F2 → Below w.heap.size w w' → (w'.cell? ⟨gr, i, none⟩ = some (.slice (some ⟨ga, (i) * (l1.length + 1), none⟩) (l1.length + 1) (l1.length + 1))) ∧ (w'.cell? ⟨gr, i + 1, none⟩ = some (.slice (some ⟨ga, (i + 1) * (l1.length + 1), none⟩) (l1.length + 1) (l1.length + 1))) ∧ (w'.cell? (ad0.add (i * 5)) = some (.string (rd_T50 l0 (i : Int)).f0)) ∧ (w'.cell? ⟨(ad0.add (i * 5)).block, (ad0.add (i * 5)).off + 1, none⟩ = some (.int .i64 (rd_T50 l0 (i : Int)).f1)) ∧ (w'.cell? ⟨(ad0.add (i * 5)).block, (ad0.add (i * 5)).off + 2, none⟩ = some (.bool (rd_T50 l0 (i : Int)).f2)) ∧ (w'.cell? ⟨(ad0.add (i * 5)).block, (ad0.add (i * 5)).off + 3, none⟩ = some (.bool (rd_T50 l0 (i : Int)).f3)) ∧ (w'.cell? ⟨(ad0.add (i * 5)).block, (ad0.add (i * 5)).off + 4, none⟩ = some (.bool (rd_T50 l0 (i : Int)).f4)) ∧ (w'.cell? (ad1.add (k * 5)) = some (.string (rd_T50 l1 (k : Int)).f0)) ∧ (w'.cell? ⟨(ad1.add (k * 5)).block, (ad1.add (k * 5)).off + 1, none⟩ = some (.int .i64 (rd_T50 l1 (k : Int)).f1)) ∧ (w'.cell? ⟨(ad1.add (k * 5)).block, (ad1.add (k * 5)).off + 2, none⟩ = some (.bool (rd_T50 l1 (k : Int)).f2)) ∧ (w'.cell? ⟨(ad1.add (k * 5)).block, (ad1.add (k * 5)).off + 3, none⟩ = some (.bool (rd_T50 l1 (k : Int)).f3)) ∧ (w'.cell? ⟨(ad1.add (k * 5)).block, (ad1.add (k * 5)).off + 4, none⟩ = some (.bool (rd_T50 l1 (k : Int)).f4)) ∧ (w'.cell? ⟨ga, (i + 1) * (l1.length + 1) + (k + 1), none⟩ = some (.int .i64 (F2 ((i + 1) * (l1.length + 1) + (k + 1))))) ∧ (w'.cell? ⟨ga, (i) * (l1.length + 1) + (k + 1), none⟩ = some (.int .i64 (F2 ((i) * (l1.length + 1) + (k + 1))))) ∧ (w'.cell? ⟨ga, (i + 1) * (l1.length + 1) + (k), none⟩ = some (.int .i64 (F2 ((i + 1) * (l1.length + 1) + (k))))) := by
     intro w' tb hb
     obtain ⟨_, ea0, p0, p1, p2, p3, p4⟩ := at_T50 HR0.out (i : Int) (by omega) hiL
     cases ea0
     obtain ⟨_, ea1, q0, q1, q2, q3, q4⟩ := at_T50 HR1.out (k : Int) (by omega) hkL
     cases ea1
     simp only [Int.toNat_natCast] at p0 p1 p2 p3 p4 q0 q1 q2 q3 q4
     exact ⟨tb.1.cell i (by omega), tb.1.cell (i + 1) (by omega),
      (hb.cell (World.block_lt_of_cell? w _ p0)).trans p0, (hb.cell (World.block_lt_of_cell? w _ p1)).trans p1, (hb.cell (World.block_lt_of_cell? w _ p2)).trans p2, (hb.cell (World.block_lt_of_cell? w _ p3)).trans p3, (hb.cell (World.block_lt_of_cell? w _ p4)).trans p4,
      (hb.cell (World.block_lt_of_cell? w _ q0)).trans q0, (hb.cell (World.block_lt_of_cell? w _ q1)).trans q1, (hb.cell (World.block_lt_of_cell? w _ q2)).trans q2, (hb.cell (World.block_lt_of_cell? w _ q3)).trans q3, (hb.cell (World.block_lt_of_cell? w _ q4)).trans q4,
      tb.2.cell _ (flat_lt (by omega) (by omega)), tb.2.cell _ (flat_lt (by omega) (by omega)), tb.2.cell _ (flat_lt (by omega) (by omega))⟩
    have HS := aS hS
    clear hS
    go_wp2
    have hi1 : 0 ≤ (i : Int) + 1 := by omega
    have hi2 : (i : Int) + 1 < (l0.length : Int) + 1 := by omega
    have hk1 : 0 ≤ (k : Int) + 1 := by omega
    have hk2 : (k : Int) + 1 < (l1.length : Int) + 1 := by omega
    have ti : ((i : Int) + 1).toNat = i + 1 := by omega
    have tk : ((k : Int) + 1).toNat = k + 1 := by omega
    have wi : wrap64 ((i : Int) + 1) = (i : Int) + 1 := w64 (by omega) (by omega)
    have wk : wrap64 ((k : Int) + 1) = (k : Int) + 1 := w64 (by omega) (by omega)
    have HGK := aS hg3
    clear hg2 hg3
    refine start_ (n := 48) (S := fun w' => w'.cell? ⟨gr, i, none⟩ = some (.slice (some ⟨ga, (i) * (l1.length + 1), none⟩) (l1.length + 1) (l1.length + 1)) ∧ w'.cell? ⟨gr, i + 1, none⟩ = some (.slice (some ⟨ga, (i + 1) * (l1.length + 1), none⟩) (l1.length + 1) (l1.length + 1)) ∧ w'.cell? (ad0.add (i * 5)) = some (.string (rd_T50 l0 (i : Int)).f0) ∧ w'.cell? ⟨(ad0.add (i * 5)).block, (ad0.add (i * 5)).off + 1, none⟩ = some (.int .i64 (rd_T50 l0 (i : Int)).f1) ∧ w'.cell? ⟨(ad0.add (i * 5)).block, (ad0.add (i * 5)).off + 2, none⟩ = some (.bool (rd_T50 l0 (i : Int)).f2) ∧ w'.cell? ⟨(ad0.add (i * 5)).block, (ad0.add (i * 5)).off + 3, none⟩ = some (.bool (rd_T50 l0 (i : Int)).f3) ∧ w'.cell? ⟨(ad0.add (i * 5)).block, (ad0.add (i * 5)).off + 4, none⟩ = some (.bool (rd_T50 l0 (i : Int)).f4) ∧ w'.cell? (ad1.add (k * 5)) = some (.string (rd_T50 l1 (k : Int)).f0) ∧ w'.cell? ⟨(ad1.add (k * 5)).block, (ad1.add (k * 5)).off + 1, none⟩ = some (.int .i64 (rd_T50 l1 (k : Int)).f1) ∧ w'.cell? ⟨(ad1.add (k * 5)).block, (ad1.add (k * 5)).off + 2, none⟩ = some (.bool (rd_T50 l1 (k : Int)).f2) ∧ w'.cell? ⟨(ad1.add (k * 5)).block, (ad1.add (k * 5)).off + 3, none⟩ = some (.bool (rd_T50 l1 (k : Int)).f3) ∧ w'.cell? ⟨(ad1.add (k * 5)).block, (ad1.add (k * 5)).off + 4, none⟩ = some (.bool (rd_T50 l1 (k : Int)).f4) ∧ w'.cell? ⟨ga, (i + 1) * (l1.length + 1) + (k + 1), none⟩ = some (.int .i64 (F2 ((i + 1) * (l1.length + 1) + (k + 1)))) ∧ w'.cell? ⟨ga, (i) * (l1.length + 1) + (k + 1), none⟩ = some (.int .i64 (F2 ((i) * (l1.length + 1) + (k + 1)))) ∧ w'.cell? ⟨ga, (i + 1) * (l1.length + 1) + (k), none⟩ = some (.int .i64 (F2 ((i + 1) * (l1.length + 1) + (k))))) (ds := [47]) #[false, false, false, false, false, false, false, false, false, false, false, false, false, false, false, false, false, false, false, false, false, false, false, false, false, false, false, false, false, false, false, false, false, false, false, false, false, false, false, false, false, false, false, false, false, false, false, false] (by kernel_rfl) rfl rfl ⟨(HS.out _ TB.out HBs.out).1, (HS.out _ TB.out HBs.out).2.1, (HS.out _ TB.out HBs.out).2.2.1, (HS.out _ TB.out HBs.out).2.2.2.1, (HS.out _ TB.out HBs.out).2.2.2.2.1, (HS.out _ TB.out HBs.out).2.2.2.2.2.1, (HS.out _ TB.out HBs.out).2.2.2.2.2.2.1, (HS.out _ TB.out HBs.out).2.2.2.2.2.2.2.1, (HS.out _ TB.out HBs.out).2.2.2.2.2.2.2.2.1, (HS.out _ TB.out HBs.out).2.2.2.2.2.2.2.2.2.1, (HS.out _ TB.out HBs.out).2.2.2.2.2.2.2.2.2.2.1, (HS.out _ TB.out HBs.out).2.2.2.2.2.2.2.2.2.2.2.1, (HS.out _ TB.out HBs.out).2.2.2.2.2.2.2.2.2.2.2.2.1, (HS.out _ TB.out HBs.out).2.2.2.2.2.2.2.2.2.2.2.2.2.1, (HS.out _ TB.out HBs.out).2.2.2.2.2.2.2.2.2.2.2.2.2.2⟩ (fun hHeld => ?_)
    refine with_tabW compare_table.tab15 compare_table.bits15 (fun HT_ HW_ => ?_)
    refine pure_ (i := 0) (N := some 58) (v := ?_) (a' := ?_) (bs 48 1) rfl rfl (any_of HT_.out (by kernel_rfl)) (fun _ _ _ h => h) (Or.inl ⟨by rfl, ?_⟩) ?_ ?_
    rotate_left
    ·intro w'
     go_simp
     with_reducible rfl
    rotate_left
    ·simp only [Act.put, sA, sZ, sS, i64_w, i32_w]
     rfl
    refine pure_ (i := 1) (N := some 59) (v := ?_) (a' := ?_) (bs 48 3) rfl rfl (any_of HT_.out (by kernel_rfl)) (fun _ _ _ h => h) (Or.inl ⟨by rfl, ?_⟩) ?_ ?_
    rotate_left
    ·intro w'
     go_simp
     with_reducible rfl
    rotate_left
    ·simp only [Act.put, sA, sZ, sS, i64_w, i32_w]
     rfl
    refine pure_ (i := 2) (N := some 60) (v := ?_) (a' := ?_) (bs 48 7) rfl rfl (any_of HT_.out (by kernel_rfl)) (fun _ _ _ h => h) (Or.inl ⟨by rfl, ?_⟩) ?_ ?_
    rotate_left
    ·intro w'
     go_simp
     with_reducible rfl
    rotate_left
    ·simp only [Act.put, sA, sZ, sS, i64_w, i32_w]
     rfl
    refine pure_ (i := 4) (N := some 62) (v := ?_) (a' := ?_) (bs 48 23) rfl rfl (any_of HT_.out (by kernel_rfl)) (fun _ _ _ h => h) (Or.inl ⟨by rfl, ?_⟩) ?_ ?_
    rotate_left
    ·intro w'
     go_simp
     with_reducible rfl
    rotate_left
    ·simp only [Act.put, sA, sZ, sS, i64_w, i32_w]
     rfl
    refine pure_ (i := 5) (N := some 63) (v := ?_) (a' := ?_) (bs 48 55) rfl rfl (any_of HT_.out (by kernel_rfl)) (fun _ _ _ h => h) (Or.inl ⟨by rfl, ?_⟩) ?_ ?_
    rotate_left
    ·intro w'
     go_simp
     with_reducible rfl
    rotate_left
    ·simp only [Act.put, sA, sZ, sS, i64_w, i32_w]
     rfl
    refine pure_ (i := 6) (N := some 64) (v := ?_) (a' := ?_) (bs 48 119) rfl rfl (any_of HT_.out (by kernel_rfl)) (fun _ _ _ h => h) (Or.inl ⟨by rfl, ?_⟩) ?_ ?_
    rotate_left
    ·intro w'
     go_simp
     with_reducible rfl
    rotate_left
    ·simp only [Act.put, sA, sZ, sS, i64_w, i32_w]
     rfl
    refine pure_ (i := 7) (N := some 65) (v := ?_) (a' := ?_) (bs 48 247) rfl rfl (any_of HT_.out (by kernel_rfl)) (fun _ _ _ h => h) (Or.inl ⟨by rfl, ?_⟩) ?_ ?_
    rotate_left
    ·intro w'
     go_simp
     with_reducible rfl
    rotate_left
    ·simp only [Act.put, sA, sZ, sS, i64_w, i32_w]
     rfl
    refine pure_ (i := 9) (N := some 67) (v := ?_) (a' := ?_) (bs 48 759) rfl rfl (any_of HT_.out (by kernel_rfl)) (fun _ _ _ h => h) (Or.inl ⟨by rfl, ?_⟩) ?_ ?_
    rotate_left
    ·intro w'
     go_simp
     with_reducible rfl
    rotate_left
    ·simp only [Act.put, sA, sZ, sS, i64_w, i32_w]
     rfl
    refine pure_ (i := 10) (N := some 68) (v := ?_) (a' := ?_) (bs 48 1783) rfl rfl (any_of HT_.out (by kernel_rfl)) (fun _ _ _ h => h) (Or.inl ⟨by rfl, ?_⟩) ?_ ?_
    rotate_left
    ·intro w'
     go_simp
     with_reducible rfl
    rotate_left
    ·simp only [Act.put, sA, sZ, sS, i64_w, i32_w]
     rfl
    refine pure_ (i := 11) (N := some 69) (v := ?_) (a' := ?_) (bs 48 3831) rfl rfl (any_of HT_.out (by kernel_rfl)) (fun _ _ _ h => h) (Or.inl ⟨by rfl, ?_⟩) ?_ ?_
    rotate_left
    ·intro w'
     go_simp
     with_reducible rfl
    rotate_left
    ·simp only [Act.put, sA, sZ, sS, i64_w, i32_w]
     rfl
    refine pure_ (i := 15) (N := some 73) (v := ?_) (a' := ?_) (bs 48 36599) rfl rfl (any_of HT_.out (by kernel_rfl)) (fun _ _ _ h => h) (Or.inl ⟨by rfl, ?_⟩) ?_ ?_
    rotate_left
    ·intro w'
     go_simp
     with_reducible rfl
    rotate_left
    ·simp only [Act.put, sA, sZ, sS, i64_w, i32_w]
     rfl
    refine pure_ (i := 16) (N := some 74) (v := ?_) (a' := ?_) (bs 48 102135) rfl rfl (any_of HT_.out (by kernel_rfl)) (fun _ _ _ h => h) (Or.inl ⟨by rfl, ?_⟩) ?_ ?_
    rotate_left
    ·intro w'
     go_simp
     with_reducible rfl
    rotate_left
    ·simp only [Act.put, sA, sZ, sS, i64_w, i32_w]
     rfl
    refine pure_ (i := 17) (N := some 75) (v := ?_) (a' := ?_) (bs 48 233207) rfl rfl (any_of HT_.out (by kernel_rfl)) (fun _ _ _ h => h) (Or.inl ⟨by rfl, ?_⟩) ?_ ?_
    rotate_left
    ·intro w'
     go_simp
     with_reducible rfl
    rotate_left
    ·simp only [Act.put, sA, sZ, sS, i64_w, i32_w]
     rfl
    refine pure_ (i := 18) (N := some 76) (v := ?_) (a' := ?_) (bs 48 495351) rfl rfl (any_of HT_.out (by kernel_rfl)) (fun _ _ _ h => h) (Or.inl ⟨by rfl, ?_⟩) ?_ ?_
    rotate_left
    ·intro w'
     go_simp
     with_reducible rfl
    rotate_left
    ·simp only [Act.put, sA, sZ, sS, i64_w, i32_w]
     rfl
    refine pure_ (i := 20) (N := some 78) (v := ?_) (a' := ?_) (bs 48 1543927) rfl rfl (any_of HT_.out (by kernel_rfl)) (fun _ _ _ h => h) (Or.inl ⟨by rfl, ?_⟩) ?_ ?_
    rotate_left
    ·intro w'
     go_simp
     with_reducible rfl
    rotate_left
    ·simp only [Act.put, sA, sZ, sS, i64_w, i32_w]
     rfl
    refine pure_ (i := 21) (N := some 79) (v := ?_) (a' := ?_) (bs 48 3641079) rfl rfl (any_of HT_.out (by kernel_rfl)) (fun _ _ _ h => h) (Or.inl ⟨by rfl, ?_⟩) ?_ ?_
    rotate_left
    ·intro w'
     go_simp
     with_reducible rfl
    rotate_left
    ·simp only [Act.put, sA, sZ, sS, i64_w, i32_w]
     rfl
    refine pure_ (i := 26) (N := some 84) (v := ?_) (a' := ?_) (bs 48 70749943) rfl rfl (any_of HT_.out (by kernel_rfl)) (fun _ _ _ h => h) (Or.inl ⟨by rfl, ?_⟩) ?_ ?_
    rotate_left
    ·intro w'
     go_simp
     with_reducible rfl
    rotate_left
    ·simp only [Act.put, sA, sZ, sS, i64_w, i32_w]
     rfl
    refine pure_ (i := 27) (N := some 85) (v := ?_) (a' := ?_) (bs 48 204967671) rfl rfl (any_of HT_.out (by kernel_rfl)) (fun _ _ _ h => h) (Or.inl ⟨by rfl, ?_⟩) ?_ ?_
    rotate_left
    ·intro w'
     go_simp
     with_reducible rfl
    rotate_left
    ·simp only [Act.put, sA, sZ, sS, i64_w, i32_w]
     rfl
    refine pure_ (i := 28) (N := some 86) (v := ?_) (a' := ?_) (bs 48 473403127) rfl rfl (any_of HT_.out (by kernel_rfl)) (fun _ _ _ h => h) (Or.inl ⟨by rfl, ?_⟩) ?_ ?_
    rotate_left
    ·intro w'
     go_simp
     with_reducible rfl
    rotate_left
    ·simp only [Act.put, sA, sZ, sS, i64_w, i32_w]
     rfl
    refine pure_ (i := 30) (N := some 88) (v := ?_) (a' := ?_) (bs 48 1547144951) rfl rfl (any_of HT_.out (by kernel_rfl)) (fun _ _ _ h => h) (Or.inl ⟨by rfl, ?_⟩) ?_ ?_
    rotate_left
    ·intro w'
     go_simp
     with_reducible rfl
    rotate_left
    ·simp only [Act.put, sA, sZ, sS, i64_w, i32_w]
     rfl
    refine pure_ (i := 31) (N := some 89) (v := ?_) (a' := ?_) (bs 48 3694628599) rfl rfl (any_of HT_.out (by kernel_rfl)) (fun _ _ _ h => h) (Or.inl ⟨by rfl, ?_⟩) ?_ ?_
    rotate_left
    ·intro w'
     go_simp
     with_reducible rfl
    rotate_left
    ·simp only [Act.put, sA, sZ, sS, i64_w, i32_w]
     rfl
    refine pure_ (i := 36) (N := some 94) (v := ?_) (a' := ?_) (bs 48 72414105335) rfl rfl (any_of HT_.out (by kernel_rfl)) (fun _ _ _ h => h) (Or.inl ⟨by rfl, ?_⟩) ?_ ?_
    rotate_left
    ·intro w'
     go_simp
     with_reducible rfl
    rotate_left
    ·simp only [Act.put, sA, sZ, sS, i64_w, i32_w]
     rfl
    refine pure_ (i := 37) (N := some 95) (v := ?_) (a' := ?_) (bs 48 209853058807) rfl rfl (any_of HT_.out (by kernel_rfl)) (fun _ _ _ h => h) (Or.inl ⟨by rfl, ?_⟩) ?_ ?_
    rotate_left
    ·intro w'
     go_simp
     with_reducible rfl
    rotate_left
    ·simp only [Act.put, sA, sZ, sS, i64_w, i32_w]
     rfl
    refine pure_ (i := 38) (N := some 96) (v := ?_) (a' := ?_) (bs 48 484730965751) rfl rfl (any_of HT_.out (by kernel_rfl)) (fun _ _ _ h => h) (Or.inl ⟨by rfl, ?_⟩) ?_ ?_
    rotate_left
    ·intro w'
     go_simp
     with_reducible rfl
    rotate_left
    ·simp only [Act.put, sA, sZ, sS, i64_w, i32_w]
     rfl
    refine pure_ (i := 39) (N := some 97) (v := ?_) (a' := ?_) (bs 48 1034486779639) rfl rfl (any_of HT_.out (by kernel_rfl)) (fun _ _ _ h => h) (Or.inl ⟨by rfl, ?_⟩) ?_ ?_
    rotate_left
    ·intro w'
     go_simp
     with_reducible rfl
    rotate_left
    ·simp only [Act.put, sA, sZ, sS, i64_w, i32_w]
     rfl
    refine pure_ (i := 41) (N := some 99) (v := ?_) (a' := ?_) (bs 48 3233510035191) rfl rfl (any_of HT_.out (by kernel_rfl)) (fun _ _ _ h => h) (Or.inl ⟨by rfl, ?_⟩) ?_ ?_
    rotate_left
    ·intro w'
     go_simp
     with_reducible rfl
    rotate_left
    ·simp only [Act.put, sA, sZ, sS, i64_w, i32_w]
     rfl
    refine take_ (i := 3) (N := some 61) (v := ?_) (a' := ?_) (bs 48 3233510035199) rfl rfl (take_ofW HT_.out HW_.out (by kernel_rfl)) (fun _ _ _ h => h) (Or.inl ⟨by rfl, ?_⟩) hHeld ?_ ?_
    rotate_left
    ·rintro w' ⟨s0, s1, s2, s3, s4, s5, s6, s7, s8, s9, s10, s11, s12, s13, s14⟩
     go_simp
     with_reducible rfl
    rotate_left
    ·simp only [Act.put, sA, sZ, sS, i64_w, i32_w]
     rfl
    refine take_ (i := 8) (N := some 66) (v := ?_) (a' := ?_) (bs 48 3233510035455) rfl rfl (take_ofW HT_.out HW_.out (by kernel_rfl)) (fun _ _ _ h => h) (Or.inl ⟨by rfl, ?_⟩) hHeld ?_ ?_
    rotate_left
    ·rintro w' ⟨s0, s1, s2, s3, s4, s5, s6, s7, s8, s9, s10, s11, s12, s13, s14⟩
     go_simp
     with_reducible rfl
    rotate_left
    ·simp only [Act.put, sA, sZ, sS, i64_w, i32_w]
     rfl
    refine take_ (i := 12) (N := some 70) (v := ?_) (a' := ?_) (bs 48 3233510039551) rfl rfl (take_ofW HT_.out HW_.out (by kernel_rfl)) (fun _ _ _ h => h) (Or.inl ⟨by rfl, ?_⟩) hHeld ?_ ?_
    rotate_left
    ·rintro w' ⟨s0, s1, s2, s3, s4, s5, s6, s7, s8, s9, s10, s11, s12, s13, s14⟩
     go_simp
     with_reducible rfl
    rotate_left
    ·simp only [Act.put, sA, sZ, sS, i64_w, i32_w]
     rfl
    refine take_ (i := 19) (N := some 77) (v := ?_) (a' := ?_) (bs 48 3233510563839) rfl rfl (take_ofW HT_.out HW_.out (by kernel_rfl)) (fun _ _ _ h => h) (Or.inl ⟨by rfl, ?_⟩) hHeld ?_ ?_
    rotate_left
    ·rintro w' ⟨s0, s1, s2, s3, s4, s5, s6, s7, s8, s9, s10, s11, s12, s13, s14⟩
     go_simp
     with_reducible rfl
    rotate_left
    ·simp only [Act.put, sA, sZ, sS, i64_w, i32_w]
     rfl
    refine pure_ (i := 22) (N := some 80) (v := ?_) (a' := ?_) (bs 48 3233514758143) rfl rfl (any_of HT_.out (by kernel_rfl)) (fun _ _ _ h => h) (Or.inl ⟨by rfl, ?_⟩) ?_ ?_
    rotate_left
    ·intro w'
     go_simp
     with_reducible rfl
    rotate_left
    ·simp only [Act.put, sA, sZ, sS, i64_w, i32_w]
     rfl
    refine take_ (i := 23) (N := some 81) (v := ?_) (a' := ?_) (bs 48 3233523146751) rfl rfl (take_ofW HT_.out HW_.out (by kernel_rfl)) (fun _ _ _ h => h) (Or.inl ⟨by rfl, ?_⟩) hHeld ?_ ?_
    rotate_left
    ·rintro w' ⟨s0, s1, s2, s3, s4, s5, s6, s7, s8, s9, s10, s11, s12, s13, s14⟩
     go_simp
     with_reducible rfl
    rotate_left
    ·simp only [Act.put, sA, sZ, sS, i64_w, i32_w]
     rfl
    refine take_ (i := 29) (N := some 87) (v := ?_) (a' := ?_) (bs 48 3234060017663) rfl rfl (take_ofW HT_.out HW_.out (by kernel_rfl)) (fun _ _ _ h => h) (Or.inl ⟨by rfl, ?_⟩) hHeld ?_ ?_
    rotate_left
    ·rintro w' ⟨s0, s1, s2, s3, s4, s5, s6, s7, s8, s9, s10, s11, s12, s13, s14⟩
     go_simp
     with_reducible rfl
    rotate_left
    ·simp only [Act.put, sA, sZ, sS, i64_w, i32_w]
     rfl
    refine pure_ (i := 32) (N := some 90) (v := ?_) (a' := ?_) (bs 48 3238354984959) rfl rfl (any_of HT_.out (by kernel_rfl)) (fun _ _ _ h => h) (Or.inl ⟨by rfl, ?_⟩) ?_ ?_
    rotate_left
    ·intro w'
     go_simp
     with_reducible rfl
    rotate_left
    ·simp only [Act.put, sA, sZ, sS, i64_w, i32_w]
     rfl
    refine take_ (i := 33) (N := some 91) (v := ?_) (a' := ?_) (bs 48 3246944919551) rfl rfl (take_ofW HT_.out HW_.out (by kernel_rfl)) (fun _ _ _ h => h) (Or.inl ⟨by rfl, ?_⟩) hHeld ?_ ?_
    rotate_left
    ·rintro w' ⟨s0, s1, s2, s3, s4, s5, s6, s7, s8, s9, s10, s11, s12, s13, s14⟩
     go_simp
     with_reducible rfl
    rotate_left
    ·simp only [Act.put, sA, sZ, sS, i64_w, i32_w]
     rfl
    refine take_ (i := 40) (N := some 98) (v := ?_) (a' := ?_) (bs 48 4346456547327) rfl rfl (take_ofW HT_.out HW_.out (by kernel_rfl)) (fun _ _ _ h => h) (Or.inl ⟨by rfl, ?_⟩) hHeld ?_ ?_
    rotate_left
    ·rintro w' ⟨s0, s1, s2, s3, s4, s5, s6, s7, s8, s9, s10, s11, s12, s13, s14⟩
     go_simp
     with_reducible rfl
    rotate_left
    ·simp only [Act.put, sA, sZ, sS, i64_w, i32_w]
     rfl
    refine pure_ (i := 42) (N := some 100) (v := ?_) (a' := ?_) (bs 48 8744503058431) rfl rfl (any_of HT_.out (by kernel_rfl)) (fun _ _ _ h => h) (Or.inl ⟨by rfl, ?_⟩) ?_ ?_
    rotate_left
    ·intro w'
     go_simp
     with_reducible rfl
    rotate_left
    ·simp only [Act.put, sA, sZ, sS, i64_w, i32_w]
     rfl
    refine take_ (i := 43) (N := some 101) (v := ?_) (a' := ?_) (bs 48 17540596080639) rfl rfl (take_ofW HT_.out HW_.out (by kernel_rfl)) (fun _ _ _ h => h) (Or.inl ⟨by rfl, ?_⟩) hHeld ?_ ?_
    rotate_left
    ·rintro w' ⟨s0, s1, s2, s3, s4, s5, s6, s7, s8, s9, s10, s11, s12, s13, s14⟩
     go_simp
     with_reducible rfl
    rotate_left
    ·simp only [Act.put, sA, sZ, sS, i64_w, i32_w]
     rfl
    refine one_ (i := 13) (N := some 71) (bs 48 17540596088831) rfl rfl (one_of HT_.out (by kernel_rfl)) (by decide) (fun K hK => ?_)
    refine goes_ Try.func35 (by kernel_rfl) rfl #[.agg #[.string (rd_T50 l0 (i : Int)).f0, .int .i64 (rd_T50 l0 (i : Int)).f1, .bool (rd_T50 l0 (i : Int)).f2, .bool (rd_T50 l0 (i : Int)).f3, .bool (rd_T50 l0 (i : Int)).f4], .agg #[.string (rd_T50 l1 (k : Int)).f0, .int .i64 (rd_T50 l1 (k : Int)).f1, .bool (rd_T50 l1 (k : Int)).f2, .bool (rd_T50 l1 (k : Int)).f3, .bool (rd_T50 l1 (k : Int)).f4]] (by rfl) rfl rfl (by simp only [List.map_toArray, List.map_cons, List.map_nil]; rfl) ?_
    with_reducible refine (compare_taking.calls (rd_T50 l0 (i : Int)).f0 (rd_T50 l0 (i : Int)).f1 (rd_T50 l0 (i : Int)).f2 (rd_T50 l0 (i : Int)).f3 (rd_T50 l0 (i : Int)).f4 (rd_T50 l1 (k : Int)).f0 (rd_T50 l1 (k : Int)).f1 (rd_T50 l1 (k : Int)).f2 (rd_T50 l1 (k : Int)).f3 (rd_T50 l1 (k : Int)).f4 (opOf (rd_T50 l0 (i : Int)) (rd_T50 l1 (k : Int))) _ (taking_is _ _)).mono ?_
    rintro e w3 ⟨rfl, hb3⟩
    refine ⟨_, rfl, ?_⟩
    have TB3 := aS (Tab.below (W := wr.drew) TB.out hb3)
    have HB3 := aS (Below.trans (show Below w.heap.size w wr.drew from below_drew HBs.out) (hb3.mono (HBs.out.size)))
    clear TB HBs
    have TB := TB3
    have HBs := HB3
    clear TB3 HB3 hb3
    refine hK.out _ _ ⟨(HS.out _ TB.out HBs.out).1, (HS.out _ TB.out HBs.out).2.1, (HS.out _ TB.out HBs.out).2.2.1, (HS.out _ TB.out HBs.out).2.2.2.1, (HS.out _ TB.out HBs.out).2.2.2.2.1, (HS.out _ TB.out HBs.out).2.2.2.2.2.1, (HS.out _ TB.out HBs.out).2.2.2.2.2.2.1, (HS.out _ TB.out HBs.out).2.2.2.2.2.2.2.1, (HS.out _ TB.out HBs.out).2.2.2.2.2.2.2.2.1, (HS.out _ TB.out HBs.out).2.2.2.2.2.2.2.2.2.1, (HS.out _ TB.out HBs.out).2.2.2.2.2.2.2.2.2.2.1, (HS.out _ TB.out HBs.out).2.2.2.2.2.2.2.2.2.2.2.1, (HS.out _ TB.out HBs.out).2.2.2.2.2.2.2.2.2.2.2.2.1, (HS.out _ TB.out HBs.out).2.2.2.2.2.2.2.2.2.2.2.2.2.1, (HS.out _ TB.out HBs.out).2.2.2.2.2.2.2.2.2.2.2.2.2.2⟩ (fun hHeld => ?_)
    clear hK K
    refine norm_ (a' := ?_) ?_ ?_
    rotate_left
    ·show Act.put _ (some 71) _ = _
     simp only [Act.put, sA, sZ, sS, i64_w, i32_w]
     rfl
    refine one_ (i := 14) (N := some 72) (bs 48 17540596105215) rfl rfl (one_of HT_.out (by kernel_rfl)) (by decide) (fun K hK => ?_)
    refine goes_ Try.func30 (by kernel_rfl) rfl #[.int .i64 (opOf (rd_T50 l0 (i : Int)) (rd_T50 l1 (k : Int)))] (by rfl) rfl rfl (by simp only [List.map_toArray, List.map_cons, List.map_nil]; rfl) ?_
    with_reducible refine (compare_Cost.calls 3 (opOf (rd_T50 l0 (i : Int)) (rd_T50 l1 (k : Int))) _ _ (cost_op _ (opOf_is _ _))).mono ?_
    rintro e w3 ⟨rfl, ⟨nd, rfl⟩⟩
    refine ⟨_, rfl, ?_⟩
    refine hK.out _ _ ⟨(hHeld).1, (hHeld).2.1, (hHeld).2.2.1, (hHeld).2.2.2.1, (hHeld).2.2.2.2.1, (hHeld).2.2.2.2.2.1, (hHeld).2.2.2.2.2.2.1, (hHeld).2.2.2.2.2.2.2.1, (hHeld).2.2.2.2.2.2.2.2.1, (hHeld).2.2.2.2.2.2.2.2.2.1, (hHeld).2.2.2.2.2.2.2.2.2.2.1, (hHeld).2.2.2.2.2.2.2.2.2.2.2.1, (hHeld).2.2.2.2.2.2.2.2.2.2.2.2.1, (hHeld).2.2.2.2.2.2.2.2.2.2.2.2.2.1, (hHeld).2.2.2.2.2.2.2.2.2.2.2.2.2.2⟩ (fun hHeld => ?_)
    clear hK K
    refine norm_ (a' := ?_) ?_ ?_
    rotate_left
    ·show Act.put _ (some 72) _ = _
     simp only [Act.put, sA, sZ, sS, i64_w, i32_w]
     rfl
    refine pure_ (i := 24) (N := some 82) (v := ?_) (a' := ?_) (bs 48 17540612882431) rfl rfl (any_of HT_.out (by kernel_rfl)) (fun _ _ _ h => h) (Or.inl ⟨by rfl, ?_⟩) ?_ ?_
    rotate_left
    ·intro w'
     go_simp
     with_reducible rfl
    rotate_left
    ·simp only [Act.put, sA, sZ, sS, i64_w, i32_w]
     rfl
    refine one_ (i := 25) (N := some 83) (bs 48 17540646436863) rfl rfl (one_of HT_.out (by kernel_rfl)) (by decide) (fun K hK => ?_)
    refine goes_ Try.func30 (by kernel_rfl) rfl #[.int .i64 4] (by rfl) rfl rfl (by simp only [List.map_toArray, List.map_cons, List.map_nil]; rfl) ?_
    with_reducible refine (compare_Cost.calls 3 4 2 _ cost_4).mono ?_
    rintro e w3 ⟨rfl, ⟨nd, rfl⟩⟩
    refine ⟨_, rfl, ?_⟩
    refine hK.out _ _ ⟨(hHeld).1, (hHeld).2.1, (hHeld).2.2.1, (hHeld).2.2.2.1, (hHeld).2.2.2.2.1, (hHeld).2.2.2.2.2.1, (hHeld).2.2.2.2.2.2.1, (hHeld).2.2.2.2.2.2.2.1, (hHeld).2.2.2.2.2.2.2.2.1, (hHeld).2.2.2.2.2.2.2.2.2.1, (hHeld).2.2.2.2.2.2.2.2.2.2.1, (hHeld).2.2.2.2.2.2.2.2.2.2.2.1, (hHeld).2.2.2.2.2.2.2.2.2.2.2.2.1, (hHeld).2.2.2.2.2.2.2.2.2.2.2.2.2.1, (hHeld).2.2.2.2.2.2.2.2.2.2.2.2.2.2⟩ (fun hHeld => ?_)
    clear hK K
    refine norm_ (a' := ?_) ?_ ?_
    rotate_left
    ·show Act.put _ (some 83) _ = _
     simp only [Act.put, sA, sZ, sS, i64_w, i32_w]
     rfl
    refine pure_ (i := 34) (N := some 92) (v := ?_) (a' := ?_) (bs 48 17557826306047) rfl rfl (any_of HT_.out (by kernel_rfl)) (fun _ _ _ h => h) (Or.inl ⟨by rfl, ?_⟩) ?_ ?_
    rotate_left
    ·intro w'
     go_simp
     with_reducible rfl
    rotate_left
    ·simp only [Act.put, sA, sZ, sS, i64_w, i32_w]
     rfl
    refine one_ (i := 35) (N := some 93) (bs 48 17592186044415) rfl rfl (one_of HT_.out (by kernel_rfl)) (by decide) (fun K hK => ?_)
    refine goes_ Try.func30 (by kernel_rfl) rfl #[.int .i64 5] (by rfl) rfl rfl (by simp only [List.map_toArray, List.map_cons, List.map_nil]; rfl) ?_
    with_reducible refine (compare_Cost.calls 3 5 2 _ cost_5).mono ?_
    rintro e w3 ⟨rfl, ⟨nd, rfl⟩⟩
    refine ⟨_, rfl, ?_⟩
    refine hK.out _ _ ⟨(hHeld).1, (hHeld).2.1, (hHeld).2.2.1, (hHeld).2.2.2.1, (hHeld).2.2.2.2.1, (hHeld).2.2.2.2.2.1, (hHeld).2.2.2.2.2.2.1, (hHeld).2.2.2.2.2.2.2.1, (hHeld).2.2.2.2.2.2.2.2.1, (hHeld).2.2.2.2.2.2.2.2.2.1, (hHeld).2.2.2.2.2.2.2.2.2.2.1, (hHeld).2.2.2.2.2.2.2.2.2.2.2.1, (hHeld).2.2.2.2.2.2.2.2.2.2.2.2.1, (hHeld).2.2.2.2.2.2.2.2.2.2.2.2.2.1, (hHeld).2.2.2.2.2.2.2.2.2.2.2.2.2.2⟩ (fun hHeld => ?_)
    clear hK K
    refine norm_ (a' := ?_) ?_ ?_
    rotate_left
    ·show Act.put _ (some 93) _ = _
     simp only [Act.put, sA, sZ, sS, i64_w, i32_w]
     rfl
    refine pure_ (i := 44) (N := some 102) (v := ?_) (a' := ?_) (bs 48 35184372088831) rfl rfl (any_of HT_.out (by kernel_rfl)) (fun _ _ _ h => h) (Or.inl ⟨by rfl, ?_⟩) ?_ ?_
    rotate_left
    ·intro w'
     go_simp
     with_reducible rfl
    rotate_left
    ·simp only [Act.put, sA, sZ, sS, i64_w, i32_w]
     rfl
    refine pure_ (i := 45) (N := some 103) (v := ?_) (a' := ?_) (bs 48 70368744177663) rfl rfl (any_of HT_.out (by kernel_rfl)) (fun _ _ _ h => h) (Or.inl ⟨by rfl, ?_⟩) ?_ ?_
    rotate_left
    ·intro w'
     go_simp
     with_reducible rfl
    rotate_left
    ·simp only [Act.put, sA, sZ, sS, i64_w, i32_w]
     rfl
    refine pure_ (i := 46) (N := some 104) (v := ?_) (a' := ?_) (bs 48 140737488355327) rfl rfl (any_of HT_.out (by kernel_rfl)) (fun _ _ _ h => h) (Or.inl ⟨by rfl, ?_⟩) ?_ ?_
    rotate_left
    ·intro w'
     go_simp
     with_reducible rfl
    rotate_left
    ·simp only [Act.put, sA, sZ, sS, i64_w, i32_w]
     rfl
    refine last_ (i := 47) (N := none) #[true, true, true, true, true, true, true, true, true, true, true, true, true, true, true, true, true, true, true, true, true, true, true, true, true, true, true, true, true, true, true, true, true, true, true, true, true, true, true, true, true, true, true, true, true, true, true, true] rfl rfl (one_of HT_.out (by kernel_rfl)) (by decide) (fun K hK => ?_)
    obtain ⟨u3, hu3⟩ := TB.out.2.has _ (Nat.lt_of_lt_of_le (flat_lt hi hk) HCA.out)
    have hf3 := TB.out.2.frozen (i * (l1.length + 1) + k)
    refine skip_ (w1 := ?_) (by rfl) rfl ?_ ?_
    rotate_left
    ·go_simp
     rfl
    refine hK.out _ _ ?_
    clear hK K
    refine done_ (done_of HT_.out (by kernel_rfl)) ?_
    clear wi wk ti tk
    go_wp2
    all_goals
     go_roundg k
     case measure => have := HGK.out; omega
     case rel =>
      refine ⟨(k : Int) - 1, (fun j => if j = i * (l1.length + 1) + k then _ else F2 j), by omega, by omega, by omega, by go_num, ⟨Tab.set (Tab.drewN TB.out _) HNE.out HCA.out _ _ (by omega) hk _⟩, ⟨?_⟩, ⟨below_set (pw_below_drewN HBs.out _) HGA.out⟩⟩
      refine told F2 _ _ HD.out hi hk ?_
      rw [Dik_step l0 l1 i k hAi hBk]
      have b1 := Dik_bd l0 l1 (i + 1) (k + 1) h0 h1
      have b2 := Dik_bd l0 l1 i (k + 1) h0 h1
      have b3 := Dik_bd l0 l1 (i + 1) k h0 h1
      have b4 : 0 ≤ costOf (opOf (rd_T50 l0 i) (rd_T50 l1 k)) ∧ costOf (opOf (rd_T50 l0 i) (rd_T50 l1 k)) ≤ 3 := by unfold costOf; split <;> (try split) <;> omega
      have f1 := HD.out (i + 1) (k + 1) (by omega) (by omega) (by omega)
      have f2 := HD.out i (k + 1) (by omega) (by omega) (by omega)
      have f3 := HD.out (i + 1) k (by omega) (by omega) (by omega)
      rw [← f1] at b1 ⊢
      rw [← f2] at b2 ⊢
      rw [← f3] at b3 ⊢
      have v1 : wrap64 (costOf (opOf (rd_T50 l0 i) (rd_T50 l1 k)) + F2 ((i + 1) * (l1.length + 1) + (k + 1))) = costOf (opOf (rd_T50 l0 i) (rd_T50 l1 k)) + F2 ((i + 1) * (l1.length + 1) + (k + 1)) := w64 (by omega) (by omega)
      have v2 : wrap64 (2 + F2 (i * (l1.length + 1) + (k + 1))) = 2 + F2 (i * (l1.length + 1) + (k + 1)) := w64 (by omega) (by omega)
      have v3 : wrap64 (2 + F2 ((i + 1) * (l1.length + 1) + k)) = 2 + F2 ((i + 1) * (l1.length + 1) + k) := w64 (by omega) (by omega)
      clear f1 f2 f3
      unfold mn
      split <;> split <;> omega
/-- The table of the least costs. -/
def TBL (l0 l1 : List S50) : List (List Int) := (List.range (l0.length + 1)).map fun i => (List.range (l1.length + 1)).map fun k => Dik l0 l1 i k
def compare_table.f (l0 : List S50) (l1 : List S50) : Option (List (List Int)) := if l0.length ≤ 30 then (if l1.length ≤ 30 then some (TBL l0 l1) else none) else none
theorem table_N {W : World} {base gr ga cr ca : Nat} {F2 : Nat → Int} (l0 l1 : List S50) (h : Tab W gr ga cr ca l0.length l1.length F2) (hD : ∀ i k : Nat, i ≤ l0.length → k ≤ l1.length → F2 (i * (l1.length + 1) + k) = Dik l0 l1 i k)
  (hne : ga ≠ gr) (hgr : base ≤ gr) (hcr : l0.length + 1 ≤ cr ∧ cr ≤ maxLen) (h1 : l1.length ≤ 30) : Kd.N (Kd.slice 3 (Kd.int .i64)) 45 W base (fun _ => True) (.slice (some ⟨gr, 0, none⟩) (TBL l0 l1).length cr) (TBL l0 l1) := by
 have hlen : (TBL l0 l1).length = l0.length + 1 := by simp [TBL]
 have hsz : (Kd.slice 3 (Kd.int .i64)).sz = 1 := rfl
 obtain ⟨⟨curR, hR, hRs, hRv⟩, curA, hA, hAs, hAv⟩ := h
 have hcl : curR.toList.length = cr := (Array.length_toList (xs := curR)).trans hRs
 have hrl : ((List.range (l0.length + 1)).map (fun i => [seg ga (l1.length + 1) i])).length = l0.length + 1 := by simp
 have hown : W.ownsRow base 45 (Kd.raw (Kd.slice 3 (Kd.int .i64)).sz).sz (.slice (some ⟨gr, 0, none⟩) (l0.length + 1) cr) (l0.length + 1) (curR.toList.take (l0.length + 1)) := by
  refine ⟨?_, .inr ⟨gr, cr, curR, rfl, hgr, hR, hcr.1, hcr.2, ?_, ?_⟩⟩
  ·show _ = (l0.length + 1) * 1
   rw [List.length_take, hcl]; omega
  ·show curR.size = cr * 1
   omega
  ·show curR.toList.take ((l0.length + 1) * 1) = _
   rw [Nat.mul_one]
 have hreps : Reps ((Kd.raw (Kd.slice 3 (Kd.int .i64)).sz).M W base (fun k => some k = (Value.slice (some ⟨gr, 0, none⟩) (l0.length + 1) cr).ownBlock ∧ some k ≠ (Value.slice (some ⟨gr, 0, none⟩) (l0.length + 1) cr).ownBlock)) (Kd.raw (Kd.slice 3 (Kd.int .i64)).sz).sz ((List.range (l0.length + 1)).map (fun i => [seg ga (l1.length + 1) i])) (curR.toList.take (l0.length + 1)) := by
  refine ⟨?_, fun j p hj => ?_⟩
  ·show _ = ((List.range (l0.length + 1)).map (fun i => [seg ga (l1.length + 1) i])).length * 1
   rw [List.length_take, hcl, hrl]; omega
  ·have hj1 : j < l0.length + 1 := by have := (List.getElem?_eq_some_iff.mp hj).1; omega
   rw [List.getElem?_map, List.getElem?_range hj1] at hj
   obtain rfl := Option.some.inj hj
   have e : ((curR.toList.take (l0.length + 1)).drop (j * 1)).take 1 = [seg ga (l1.length + 1) j] := by
    rw [Nat.mul_one]
    apply List.ext_getElem?
    intro q
    cases q with
    | zero => simp [List.getElem?_take, List.getElem?_drop, hj1, hRv j hj1]
    | succ q => simp; omega
   show ((curR.toList.take (l0.length + 1)).drop (j * 1)).take 1 = [seg ga (l1.length + 1) j] ∧ (((curR.toList.take (l0.length + 1)).drop (j * 1)).take 1).length = 1 ∧ ∀ u ∈ ((curR.toList.take (l0.length + 1)).drop (j * 1)).take 1, u.oneCell' = true
   rw [e]
   refine ⟨rfl, rfl, fun u hu => ?_⟩
   have e2 := List.mem_singleton.mp hu
   subst e2; rfl
 rw [hlen]
 refine ⟨fun _ _ => trivial, (List.range (l0.length + 1)).map (fun i => [seg ga (l1.length + 1) i]), by rw [hlen]; simp, ⟨fun k hk => hk.symm, curR.toList.take (l0.length + 1), by rw [hrl]; exact hown, hreps⟩, ?_⟩
 intro j x c hx hc
 have hj1 : j < l0.length + 1 := by have := (List.getElem?_eq_some_iff.mp hc).1; omega
 rw [List.getElem?_map, List.getElem?_range hj1] at hc
 obtain rfl := Option.some.inj hc
 have hx' : x = (List.range (l1.length + 1)).map fun k => Dik l0 l1 j k := by
  unfold TBL at hx
  rw [List.getElem?_map, List.getElem?_range hj1] at hx
  exact (Option.some.inj hx).symm
 have hxl : x.length = l1.length + 1 := by rw [hx']; simp
 intro W' hW
 have hlt := blk_lt hA
 have hA' : W'.heap[ga]? = some (.cells curA 3 (0, 0)) := (hW ga ⟨trivial, fun e => hne (by simpa [Value.ownBlock] using e)⟩ hlt).trans hA
 refine ⟨some ⟨ga, j * (l1.length + 1), none⟩, l1.length + 1, by rw [hxl]; rfl, by omega, rfl, by omega, fun _ => ⟨_, rfl, fun i p hp => ?_⟩⟩
 have hi1 : i < l1.length + 1 := by have := (List.getElem?_eq_some_iff.mp hp).1; omega
 rw [hx', List.getElem?_map, List.getElem?_range hi1] at hp
 obtain rfl := Option.some.inj hp
 refine ⟨[.int .i64 (Dik l0 l1 j i)], rfl, rfl, fun q u hu => ?_⟩
 cases q with
 | succ q => simp at hu
 | zero =>
  have hu' : u = .int .i64 (Dik l0 l1 j i) := by simpa using hu.symm
  subst hu'
  have e1 : (⟨ga, j * (l1.length + 1), none⟩ : Addr).add (i * (Kd.int .i64).sz + 0) = ⟨ga, j * (l1.length + 1) + i, none⟩ := by
   show (⟨ga, j * (l1.length + 1), none⟩ : Addr).add (i * 1 + 0) = _
   rw [Nat.mul_one, Nat.add_zero]
   unfold Addr.add
   split
   ·rename_i e; subst e; rfl
   ·rfl
  rw [e1, blk_cell hA', hAv _ (flat_lt (by omega) (by omega))]
  show some (Value.int .i64 (F2 (j * (l1.length + 1) + i))) = _
  rw [hD j i (by omega) (by omega)]
theorem compare_table.calls (A0 : Option Addr) (c0 : Nat) (l0 : List S50) (A1 : Option Addr) (c1 : Nat) (l1 : List S50) (r : List (List Int)) (w : World) (hr0 : Kd.C k50 w A0 l0.length l0) (hc0 : l0.length ≤ c0) (hr1 : Kd.C k50 w A1 l1.length l1) (hc1 : l1.length ≤ c1) (h : compare_table.f l0 l1 = some r) :
  Calls Try.prog 33 #[.slice A0 l0.length c0, .slice A1 l1.length c1] w fun e w' => ∃ v0_ : Value, e = .returned (v0_) ∧ Kd.N (Kd.slice 3 (Kd.int .i64)) 45 w' w.heap.size (fun _ => True) v0_ r ∧ Below w.heap.size w w' := by
 unfold compare_table.f at h
 by_cases h0 : l0.length ≤ 30
 rotate_left
 ·rw [if_neg h0] at h; cases h


 rw [if_pos h0] at h
 by_cases h1 : l1.length ≤ 30
 rotate_left
 ·rw [if_neg h1] at h; cases h
 rw [if_pos h1] at h
 obtain rfl := Option.some.inj h
 refine table_walk A0 c0 l0 A1 c1 l1 w hr0 hc0 hr1 hc1 h0 h1 _ ?_
 intro gr ga cr ca F2 w' tb hD hne hga hgr hcr hb
 have hlen : (TBL l0 l1).length = l0.length + 1 := by simp [TBL]
 refine ⟨_, rfl, ?_, hb⟩
 have := table_N (base := w.heap.size) l0 l1 tb hD hne hgr hcr h1
 rw [hlen] at this
 exact this
end Go.Proofs.Ytjmbkbnbepmhjaa.P
