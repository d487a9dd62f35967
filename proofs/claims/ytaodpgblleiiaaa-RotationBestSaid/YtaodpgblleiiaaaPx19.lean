-- out of a program (drive.sh), by way of the translation's print
import Derived.Test.YtaodpgblleiiaaaPx0
import Derived.Test.YtaodpgblleiiaaaPx1
import Derived.Test.YtaodpgblleiiaaaPx2
import Derived.Test.YtaodpgblleiiaaaPx4
import Derived.Test.YtaodpgblleiiaaaPx14
import Derived.Test.YtaodpgblleiiaaaPx15
namespace Go.Proofs.Ytaodpgblleiiaaa.P
open Go.RowKit Go.Proofs.YtaodpgblleiiaaaW.PrintWords Go.Proofs.YtaodpgblleiiaaaW.PrintLast Go.Proofs.YtaodpgblleiiaaaW.PrintMore
attribute [local go_sem] max2_int min2_int max_two min_two max_three min_three max_four min_four   -- for this text's walks alone
set_option linter.unusedVariables false
set_option linter.unusedSimpArgs false

/-! ### rotation_Shortest: function 33 -/
set_option maxHeartbeats 400000 in
theorem clone_calls (A : Option Addr) (c : Nat) (l : List Int) (w : World) (hr : Kd.C (Kd.int .i64) w A l.length l) (hc : l.length ≤ c) (hb : l.length ≤ 1000) :
    Calls Try.prog 42 #[.slice A l.length c] w fun e w' => ∃ v : Value, e = .returned v ∧ Kd.R (Kd.int .i64) 3 w' w.heap.size (fun _ => True) v l ∧ Below w.heap.size w w' := by
  have hu31 := Try.underlying31
  have hq : ∀ (w : World) (a : Option Addr) (n c : Nat), (binOp .eql 31 (.slice a n c) (.slice none 0 0)).run Try.prog w = .ok (.bool a.isNone) w := fun w a n c => Lib.run_eql_slice_nil w _ _ a n c 0 0 hu31
  have HR := Aside0.mk hr
  clear hr
  cases A with
  | none =>
    have hl : l = [] := by
      rcases Nat.eq_zero_or_pos l.length with h0 | h0
      · exact List.eq_nil_of_length_eq_zero h0
      · obtain ⟨ad, h, _⟩ := HR.out.2.2 h0
        cases h
    subst hl
    go_enter Try.func42, Try.ntmps42
    go_wp2
    go_ret
    exact ⟨_, rfl, Kd.R_nil _ _ _ _ _, by repeat (first | exact Below.refl _ _ | apply below_alloc | apply pw_below_drewN | apply below_drew1)⟩
  | some ad =>
    have HB := Aside0.mk (Below.refl w.heap.size w)
    go_enter Try.func42, Try.ntmps42
    go_wp2_with (first
      | ((with_reducible refine gate_dst (N := 5) rfl ?_); refine Kd.R_lit (Kd.int .i64) _ 3 ?hg (N := 5) ?hd (xs := ([] : List Int)) (inner := []) (ok := fun _ => True) (okp := fun _ => True) ?hr ?hp (fun _ hk => hk) trivial (Below.refl _ _) (Nat.le_refl _) (by simp) ?_; (case hd => rfl); (case hg => rfl); (case hr => first | (go_simp; done) | (go_simp; rfl)); (case hp => exact (Reps.none _ _)); intro v1 w1 ho hb1 hg_ hnew_; clear hg_ hnew_; have HO1 := Aside0.mk (Kd.R_lower ho (show w.heap.size ≤ _ by simp)); have HB1 := Aside0.mk (below_step (by repeat (first | (with_reducible first | exact HB.out | apply below_alloc | apply pw_below_drewN | apply below_drew1) | exact HB.out)) hb1); clear HB; have HB := HB1; clear HB1 hb1 ho)
      | ((with_reducible refine gate_builtin (b := .append) (xs := #[.tmp 5, .tmp 6]) rfl ?_); at_builtin; refine Kd.R_append_rows (Kd.int .i64) (w0 := w) w.heap.size rfl (.tmp 5) (.tmp 6) 31 3 (.int .i64 0) 8 rfl Try.underlying31 info3 rfl (by decide) (by omega) v1 [] l _ _ _ (fun k_ => True) (fun _ => False) rfl rfl ?aO ?aR (fun _ _ h => h) (fun _ h => h.elim) ?aF ?aB ?aS ?aL ?_; (case aR => exact Kd.C_below HR.out (HB.out)); (case aB => exact HB.out); (case aF => exact (fun k_ hk => trivial)); (case aO => exact HO1.out); (case aS => exact HB.out.size); (case aL => simp; omega); intro v2 w2 ho2 hb2 hg2 hat2; have HO2 := Aside0.mk ho2; have HB2 := Aside0.mk hb2; clear ho2 hb2 hg2 hat2))
    go_ret
    exact ⟨_, rfl, HO2.out, HB2.out⟩
/-! ### the assignments, one after the other -/
mutual
def asg (sizes secs : List Int) (pause : Int) (sq : List (List Int)) : Nat → List Int → List Int → Int → Option (List Int × Int)
  | 0, _, _, _ => none
  | k + 1, p, best, fin =>
    if p.length = sizes.length then
      (rotation_times.f k sq (p.map fun g => rd sizes g) secs pause).bind fun t => if sizes.length < t.length then (if best = [] ∨ rd t (sizes.length : Int) < fin then some (p, rd t (sizes.length : Int)) else some (best, fin)) else none
    else asgL sizes secs pause sq k p best fin 0
def asgL (sizes secs : List Int) (pause : Int) (sq : List (List Int)) : Nat → List Int → List Int → Int → Nat → Option (List Int × Int)
  | 0, _, _, _, _ => none
  | k + 1, p, best, fin, g =>
    if g < sizes.length then (if (g : Int) ∈ p then asgL sizes secs pause sq k p best fin (g + 1)
      else (asg sizes secs pause sq k (p ++ [(g : Int)]) best fin).bind fun s => asgL sizes secs pause sq k p s.1 s.2 (g + 1))
    else some (best, fin)
end
theorem asg_mono (sizes secs : List Int) (pause : Int) (sq : List (List Int)) : ∀ k, (∀ p best fin, LeO (asg sizes secs pause sq k p best fin) (asg sizes secs pause sq (k + 1) p best fin)) ∧ (∀ p best fin g, LeO (asgL sizes secs pause sq k p best fin g) (asgL sizes secs pause sq (k + 1) p best fin g))
  | 0 => ⟨fun _ _ _ r h => by simp [asg] at h, fun _ _ _ _ r h => by simp [asgL] at h⟩
  | k + 1 => by
    obtain ⟨ih0, ih1⟩ := asg_mono sizes secs pause sq k
    refine ⟨?_, ?_⟩
    · intro p best fin
      unfold asg
      refine LeO.ite (LeO.bind (rotation_times.mono _ _ _ _ _) (fun _ => LeO.refl _)) (ih1 _ _ _ _)
    · intro p best fin g
      unfold asgL
      exact LeO.ite (LeO.ite (ih1 _ _ _ _) (LeO.bind (ih0 _ _ _) (fun _ => ih1 _ _ _ _))) (LeO.refl _)
theorem index_plain (p : List Int) (g : Int) : ∀ (d i : Nat), p.length - i = d → i ≤ p.length → p.length ≤ 1000 → ∃ r : Int, slices_Index_int_int.l0 (d + 1) p g (p.length : Int) (i : Int) = some r ∧ (decide (r ≥ 0) = decide (g ∈ p.drop i))
  | 0, i, hd, hi, hb => by
    have e : p.drop i = [] := List.drop_of_length_le (by omega)
    refine ⟨-1, ?_, by rw [e]; simp⟩
    simp only [slices_Index_int_int.l0]
    rw [if_neg (by omega)]
  | d + 1, i, hd, hi, hb => by
    have hlt : i < p.length := by omega
    have ed : p.drop i = rd p (i : Int) :: p.drop (i + 1) := by
      rw [List.drop_eq_getElem_cons hlt]; congr 1; unfold rd; simp [List.getD_eq_getElem?_getD, hlt]
    have ew : wrap64 ((i : Int) + 1) = ((i + 1 : Nat) : Int) := by unfold wrap64; omega
    by_cases c : g = rd p (i : Int)
    · refine ⟨(i : Int), ?_, ?_⟩
      · simp only [slices_Index_int_int.l0]
        rw [if_pos (by omega), if_pos (by omega), if_pos (by omega), if_pos c]
      · rw [ed, decide_eq_true (show (i : Int) ≥ 0 by omega), decide_eq_true (show g ∈ rd p (i : Int) :: p.drop (i + 1) by rw [c]; exact List.mem_cons_self)]
    · obtain ⟨r, hr, he⟩ := index_plain p g d (i + 1) (by omega) (by omega) hb
      refine ⟨r, ?_, ?_⟩
      · rw [slices_Index_int_int.l0, if_pos (by omega), if_pos (by omega), if_pos (by omega), if_neg c, ew]; exact hr
      · rw [he, ed]
        by_cases hm : g ∈ p.drop (i + 1)
        · rw [decide_eq_true hm, decide_eq_true (List.mem_cons_of_mem _ hm)]
        · rw [decide_eq_false hm, decide_eq_false (fun h => by rcases List.mem_cons.mp h with h | h; exact c h; exact hm h)]
theorem contains_plain (p : List Int) (g : Int) (hb : p.length ≤ 1000) : slices_Contains_int_int.f (p.length + 1) p g = some (decide (g ∈ p)) := by
  obtain ⟨r, hr, he⟩ := index_plain p g p.length 0 (by omega) (by omega) hb
  have hI : slices_Index_int_int.f (p.length + 1) p g = some r := hr
  unfold slices_Contains_int_int.f
  rw [hI, Option.bind_some]
  rw [List.drop_zero] at he
  rw [← he]
/-- What the closure's boxes hold, and what they lead to. -/
structure Fix (sizes secs : List Int) (pause : Int) (sq : List (List Int)) (A0 : Option Addr) (c0 : Nat) (A1 : Option Addr) (c1 : Nat) (A2 : Option Addr) (c2 : Nat) (bn bz bq bs bp bb be ba : Nat) (w : World) : Prop where
  hbn : w.cell? ⟨bn, 0, none⟩ = some (.int .i64 (sizes.length : Int))
  hbz : w.cell? ⟨bz, 0, none⟩ = some (.slice A0 sizes.length c0)
  hbq : w.cell? ⟨bq, 0, none⟩ = some (.slice A2 sq.length c2)
  hbs : w.cell? ⟨bs, 0, none⟩ = some (.slice A1 secs.length c1)
  hbp : w.cell? ⟨bp, 0, none⟩ = some (.int .i64 pause)
  hba : w.cell? ⟨ba, 0, none⟩ = some (.func (.func 41) #[] #[.pointer (some ⟨bn, 0, none⟩), .pointer (some ⟨bz, 0, none⟩), .pointer (some ⟨bq, 0, none⟩), .pointer (some ⟨bs, 0, none⟩), .pointer (some ⟨bp, 0, none⟩), .pointer (some ⟨bb, 0, none⟩), .pointer (some ⟨be, 0, none⟩), .pointer (some ⟨ba, 0, none⟩)])
  hz : Kd.C (Kd.int .i64) w A0 sizes.length sizes
  hs : Kd.C (Kd.int .i64) w A1 secs.length secs
  hq : Kd.C (Kd.slice 3 (Kd.int .i64)) w A2 sq.length sq
/-- Two blocks: what the closure writes. -/
def Two (bb be : Nat) (k : Nat) : Prop := k = bb ∨ k = be
/-- A fact that stays whatever is written there. -/
def Safe (bb be : Nat) (F : World → Prop) (w : World) : Prop := ∀ W, Kept w W (Two bb be) → F W
theorem Safe.now {bb be : Nat} {F : World → Prop} {w : World} (h : Safe bb be F w) : F w := h w (Kept.refl w _)
theorem Safe.step {bb be : Nat} {F : World → Prop} {w w1 : World} (h : Safe bb be F w) (k : Kept w w1 (Two bb be)) : Safe bb be F w1 := fun W hW => h W (k.then_ hW (fun _ h => .inl h))
/-- What the two boxes hold. -/
structure Var (B0 bb be : Nat) (best : List Int) (fin : Int) (w : World) : Prop where
  hne : bb ≠ be
  hB : B0 ≤ w.heap.size
  hbe : w.heap[be]? = some (.cells #[.int .i64 fin] 3 (0, 0))
  hbb : ∃ bv : Value, w.heap[bb]? = some (.cells #[bv] 31 (0, 0)) ∧ ((best = [] ∧ bv = .slice none 0 0) ∨ (best ≠ [] ∧ Kd.R (Kd.int .i64) 3 w B0 (fun k => ¬ Two bb be k) bv best))
theorem Var.lt {B0 bb be : Nat} {best : List Int} {fin : Int} {w : World} (h : Var B0 bb be best fin w) : ∀ k, Two bb be k → k < w.heap.size := by
  obtain ⟨_, _, h1, bv, h2, _⟩ := h
  rintro k (rfl | rfl)
  · exact blk_lt h2
  · exact blk_lt h1
theorem Var.step {B0 bb be : Nat} {best : List Int} {fin : Int} {w w1 : World} (h : Var B0 bb be best fin w) (k : Kept w w1 (fun _ => False)) : Var B0 bb be best fin w1 := by
  obtain ⟨h0, hB, h1, bv, h2, h3⟩ := h
  refine ⟨h0, Nat.le_trans hB k.1, blk_kept h1 k (fun h => h), bv, blk_kept h2 k (fun h => h), h3.imp_right ?_⟩
  rintro ⟨h4, h5⟩
  exact ⟨h4, Kd.R_kept h5 k (fun _ _ h => h)⟩
theorem own_safe {bb be base : Nat} {ok : Nat → Prop} {A : Option Addr} {n c : Nat} {xs : List Int} {w : World} (h : Kd.R (Kd.int .i64) 3 w base ok (.slice A n c) xs) (hS : ∀ k, Two bb be k → k < base) : Safe bb be (fun W => Kd.C (Kd.int .i64) W A n xs) w :=
  Kd.C_kept_own (Kd.R_bound h) (fun k hk h2 => by have := hS k h2; have := hk.2.1; omega)
def Okp (n : Nat) (p : List Int) : Prop := ∀ x, x ∈ p → 0 ≤ x ∧ x < (n : Int)
theorem okp_snoc {n : Nat} {p : List Int} {g : Nat} (h : Okp n p) (hg : g < n) : Okp n (p ++ [(g : Int)]) := by
  intro x hx
  rw [List.mem_append, List.mem_singleton] at hx
  rcases hx with hx | rfl
  · exact h x hx
  · omega
def ForkF (wA : World) (ba : Nat) (FV : Value) (p : List Int) (g : Int) (s : Value × Nat) (w' : World) : Prop :=
  w'.cell? ⟨ba, 0, none⟩ = some FV ∧ Kd.R (Kd.int .i64) 3 w' wA.heap.size (fun _ => True) s.1 p ∧ Kd.C (Kd.int .i64) w' (some ⟨s.2, 0, none⟩) 1 [g] ∧ Below wA.heap.size wA w'
theorem fork_made (wA : World) (g : Int) : Below wA.heap.size wA (wA.alloc (.cells #[.int .i64 g] 3)) := below_alloc (Below.refl _ _) _
theorem fork_cell {w : World} {a : Addr} {v : Value} {o : Obj} (h : w.cell? a = some v) : (w.alloc o).cell? a = some v := ((below_alloc (Below.refl w.heap.size w) o).cell (World.block_lt_of_cell? w a h)).trans h
theorem one_row (w : World) (b : Nat) (g : Int) (h : w.heap[b]? = some (.cells #[.int .i64 g] 3 (0, 0))) : Kd.C (Kd.int .i64) w (some ⟨b, 0, none⟩) 1 [g] := by
  refine ⟨rfl, by decide, fun _ => ⟨⟨b, 0, none⟩, rfl, fun j x hj => ?_⟩⟩
  cases j with
  | zero =>
    obtain rfl : g = x := by simpa using hj
    refine ⟨[.int .i64 g], rfl, rfl, fun i u hu => ?_⟩
    cases i with
    | zero =>
      obtain rfl : Value.int .i64 g = u := by simpa using hu
      exact (blk_cell h 0).trans rfl
    | succ i => simp at hu
  | succ j => simp at hj
theorem alloc_blk (w : World) (cs : Array Value) (t : TypeId) : (w.alloc (.cells cs t)).heap[w.heap.size]? = some (.cells cs t (0, 0)) := by show (w.heap.push _)[w.heap.size]? = _; simp
theorem fork_clone {wA w3 : World} {ba : Nat} {FV v3 : Value} {p : List Int} (g : Int) (hR : Kd.R (Kd.int .i64) 3 w3 wA.heap.size (fun _ => True) v3 p) (hB : Below wA.heap.size wA w3) (h : wA.cell? ⟨ba, 0, none⟩ = some FV) :
    w3.cell? ⟨ba, 0, none⟩ = some FV ∧ ForkF wA ba FV p g (v3, w3.heap.size) (w3.alloc (.cells #[.int .i64 g] 3)) := by
  have h3 := (hB.cell (World.block_lt_of_cell? wA _ h)).trans h
  exact ⟨h3, fork_cell h3, Kd.R_alloc hR _, one_row _ _ _ (alloc_blk _ _ _), hB.alloc hB.size _⟩
theorem fork_clone2 {wA w3 : World} {ba : Nat} {FV v3 : Value} {p : List Int} (g : Int) (hR : Kd.R (Kd.int .i64) 3 w3 (wA.alloc (.cells #[.int .i64 g] 3)).heap.size (fun _ => True) v3 p) (hB : Below (wA.alloc (.cells #[.int .i64 g] 3)).heap.size (wA.alloc (.cells #[.int .i64 g] 3)) w3) (h : wA.cell? ⟨ba, 0, none⟩ = some FV) :
    w3.cell? ⟨ba, 0, none⟩ = some FV ∧ ForkF wA ba FV p g (v3, wA.heap.size) w3 := by
  have h1 := fork_cell (o := .cells #[.int .i64 g] 3) h
  have h3 := (hB.cell (World.block_lt_of_cell? _ _ h1)).trans h1
  have hle : wA.heap.size ≤ (wA.alloc (.cells #[.int .i64 g] 3)).heap.size := (fork_made wA g).size
  exact ⟨h3, h3, Kd.R_lower hR hle, one_row _ _ _ (blk_below (alloc_blk _ _ _) hB), (fork_made wA g).trans (hB.mono hle)⟩
def Shortest_1.T15 : Bool × List (List Nat × List Nat) := (true, [([], []), ([], []), ([1], [1]), ([], []), ([3], [3]), ([2, 4, 2], [2, 4]), ([0, 5, 5], [0, 5])])
def Shortest_1.B15 : List Nat := [0, 0, 2, 0, 8, 30, 63]
theorem Shortest_1.tab15 : rtab .any (opsOf Try.f41 15) = Shortest_1.T15 := by kernel_rfl
theorem Shortest_1.bits15 : waitsOk Shortest_1.T15.2 Shortest_1.B15 = true := by kernel_rfl
/-- A block of m cells, of which the first n are told. -/
def Blk (W : World) (g t m n : Nat) (V : Nat → Value) : Prop := ∃ cur : Array Value, W.heap[g]? = some (.cells cur t (0, 0)) ∧ cur.size = m ∧ ∀ i, i < n → cur[i]? = some (V i)
theorem Blk.cell {W : World} {g t m n : Nat} {V : Nat → Value} (h : Blk W g t m n V) (i : Nat) (hi : i < n) : W.cell? ⟨g, i, none⟩ = some (V i) := by
  obtain ⟨cur, hb, _, hv⟩ := h
  rw [blk_cell hb i]; exact hv i hi
theorem Blk.has {W : World} {g t m n : Nat} {V : Nat → Value} (h : Blk W g t m n V) (i : Nat) (hi : i < m) : ∃ u, W.cell? ⟨g, i, none⟩ = some u := by
  obtain ⟨cur, hb, hm, hv⟩ := h
  rw [blk_cell hb i]; exact ⟨_, Array.getElem?_eq_getElem (by omega)⟩
theorem Blk.frozen {W : World} {g t m n : Nat} {V : Nat → Value} (h : Blk W g t m n V) (i : Nat) : W.frozen? ⟨g, i, none⟩ = false := by
  obtain ⟨cur, hb, _, _⟩ := h
  exact blk_frozen hb i
theorem Blk.below {W W1 : World} {g t m n : Nat} {V : Nat → Value} (h : Blk W g t m n V) (hb : Below W.heap.size W W1) : Blk W1 g t m n V := by
  obtain ⟨cur, h1, h2⟩ := h
  exact ⟨cur, blk_below h1 hb, h2⟩
theorem Blk.grown {W W1 : World} {g t m n : Nat} {V : Nat → Value} (h : Blk W g t m n V) (hg : W.grownBy W1 none) : Blk W1 g t m n V := by
  obtain ⟨cur, h1, h2⟩ := h
  exact ⟨cur, blk_grown h1 hg (by simp), h2⟩
theorem Blk.far {W : World} {g t m n : Nat} {V : Nat → Value} (h : Blk W g t m n V) {p : Addr} (hp : g ≠ p.block) (u : Value) : Blk (W.setCell p u) g t m n V := by
  obtain ⟨cur, h1, h2⟩ := h
  exact ⟨cur, blk_far h1 hp u, h2⟩
theorem Blk.drewN {W : World} {g t m n : Nat} {V : Nat → Value} (h : Blk W g t m n V) (k : Nat) : Blk (W.drewN k) g t m n V := h
theorem Blk.drew {W : World} {g t m n : Nat} {V : Nat → Value} (h : Blk W g t m n V) : Blk W.drew g t m n V := h
theorem Blk.lt {W : World} {g t m n : Nat} {V : Nat → Value} (h : Blk W g t m n V) : g < W.heap.size := by
  obtain ⟨cur, h1, _⟩ := h
  exact blk_lt h1
theorem Blk.set {W : World} {g t m n : Nat} {V V' : Nat → Value} (h : Blk W g t m n V) (i : Nat) (hi : i < m) (u : Value) (n' : Nat) (hV : ∀ j, j < n' → V' j = if j = i then u else V j) (hn : ∀ j, j < n' → j = i ∨ j < n) : Blk (W.setCell ⟨g, i, none⟩ u) g t m n' V' := by
  obtain ⟨cur, h1, h2, h3⟩ := h
  refine ⟨cur.setIfInBounds i u, blk_set h1 i u, by simpa using h2, fun j hj => ?_⟩
  rw [Array.getElem?_setIfInBounds, hV j hj]
  by_cases e : j = i
  · subst e
    rw [if_pos rfl, if_pos rfl, if_pos (by omega)]
  · rw [if_neg (fun e' => e e'.symm), if_neg e]
    exact h3 j ((hn j hj).resolve_left e)
theorem R_blk {w : World} {base e n : Nat} {ok : Nat → Prop} {v : Value} {z : Int} (h : (Kd.int .i64).R e w base ok v (List.replicate n z)) (hn : 0 < n) :
    ∃ g cap, v = .slice (some ⟨g, 0, none⟩) n cap ∧ base ≤ g ∧ n ≤ cap ∧ Blk w g e cap n (fun _ => .int .i64 z) := by
  obtain ⟨h0, inner, ⟨hl, ho⟩, hr⟩ := h
  rw [List.length_replicate] at hl ho
  rcases ho with ⟨_, h1⟩ | ⟨g, cap, cur, rfl, hb, hh, h1, h2, h3, h4⟩
  · omega
  · have e1 : (Kd.int .i64).sz = 1 := rfl
    rw [e1] at h3 h4
    refine ⟨g, cap, rfl, hb, h1, cur, hh, by omega, fun i hi => ?_⟩
    have h5 := hr.2 i z (by rw [List.getElem?_replicate, if_pos hi])
    have h6 : (inner.drop (i * 1)).take 1 = [.int .i64 z] := h5
    rw [← h4, Nat.mul_one, Nat.mul_one] at h6
    have h7 : (cur.toList.take n)[i]? = some (.int .i64 z) := by
      have h8 := congrArg (fun l => l[0]?) h6
      simpa [List.getElem?_take, List.getElem?_drop] using h8
    rw [List.getElem?_take, if_pos hi] at h7
    simpa using h7

def colV (sizes p : List Int) (i j : Nat) : Value := if j < i then .int .i64 (rd sizes (rd p (j : Int))) else .int .i64 0
theorem col_row {w : World} {g cap n : Nat} (sizes p : List Int) (hp : p.length = n) (h : Blk w g 3 cap n (colV sizes p n)) (hn : n ≤ 1000) : Kd.C (Kd.int .i64) w (some ⟨g, 0, none⟩) n (p.map fun x => rd sizes x) := by
  refine ⟨by simp [hp], by omega, fun _ => ⟨⟨g, 0, none⟩, rfl, fun j x hj => ?_⟩⟩
  have hjl : j < p.length := by have := (List.getElem?_eq_some_iff.1 hj).1; simpa using this
  have hx : x = rd sizes (rd p (j : Int)) := by
    rw [List.getElem?_map, List.getElem?_eq_getElem hjl] at hj
    have : rd p (j : Int) = p[j] := by unfold rd; simp [List.getD_eq_getElem?_getD, hjl]
    rw [this]; simpa using hj.symm
  refine ⟨[.int .i64 x], rfl, rfl, fun i u hu => ?_⟩
  cases i with
  | zero =>
    obtain rfl : Value.int .i64 x = u := by simpa using hu
    have := h.cell j (by omega)
    unfold colV at this
    rw [if_pos (by omega)] at this
    have e : (⟨g, 0, none⟩ : Addr).add (j * (Kd.int .i64).sz + 0) = ⟨g, j, none⟩ := by rw [add_at]; show (⟨g, 0 + (j * 1 + 0), none⟩ : Addr) = _; rw [Nat.zero_add, Nat.add_zero, Nat.mul_one]
    rw [e, this, hx]
  | succ i => simp at hu
theorem fin_kept {bb be : Nat} {w w4 w5 : World} (h4 : Below w.heap.size w w4) (h5 : Below w4.heap.size w4 w5) (u v : Value) : Kept w ((w5.setCell ⟨bb, 0, none⟩ u).setCell ⟨be, 0, none⟩ v) (Two bb be) :=
  (((Kept.of_below h4 _).below h5).setCell (p := ⟨bb, 0, none⟩) (.inl (.inl rfl)) u).setCell (p := ⟨be, 0, none⟩) (.inl (.inr rfl)) v
theorem fin_var {B0 bb be base : Nat} {p : List Int} {f0 : Int} {bv v5 : Value} {w5 : World} (hne : bb ≠ be) (hB0 : B0 ≤ base) (hB5 : base ≤ w5.heap.size) (hbb : w5.heap[bb]? = some (.cells #[bv] 31 (0, 0))) (hbe : w5.heap[be]? = some (.cells #[.int .i64 f0] 3 (0, 0))) (hR : Kd.R (Kd.int .i64) 3 w5 base (fun _ => True) v5 p) (hp : 0 < p.length) (hS : ∀ k, Two bb be k → k < base) (fin : Int) :
    Var B0 bb be p fin ((w5.setCell ⟨bb, 0, none⟩ v5).setCell ⟨be, 0, none⟩ (.int .i64 fin)) := by
  have h1 := blk_far (p := ⟨bb, 0, none⟩) hbe (fun e => hne e.symm) v5
  have h2 := blk_put (cs' := #[v5]) hbb 0 v5 rfl
  have hk : Kept w5 ((w5.setCell ⟨bb, 0, none⟩ v5).setCell ⟨be, 0, none⟩ (.int .i64 fin)) (Two bb be) := ((Kept.refl w5 _).setCell (p := ⟨bb, 0, none⟩) (.inl (.inl rfl)) _).setCell (p := ⟨be, 0, none⟩) (.inl (.inr rfl)) _
  refine ⟨hne, Nat.le_trans (Nat.le_trans hB0 hB5) hk.1, blk_put (cs' := #[.int .i64 fin]) h1 0 _ rfl, v5, blk_far (p := ⟨be, 0, none⟩) h2 hne _, .inr ⟨by rintro rfl; simp at hp, ?_⟩⟩
  exact Kd.R_lower (Kd.R_kept (Kd.R_mono (ok' := fun k => ¬ Two bb be k) (Kd.R_bound hR) (fun k hk h2 => by have := hS k h2; have := hk.2.1; omega)) hk (fun _ h => h)) hB0
set_option maxHeartbeats 4000000 in
set_option maxRecDepth 100000 in
theorem asg_calls (sizes secs : List Int) (pause : Int) (sq : List (List Int)) (A0 : Option Addr) (c0 : Nat) (A1 : Option Addr) (c1 : Nat) (A2 : Option Addr) (c2 : Nat) (B0 bn bz bq bs bp bb be ba : Nat)
    (hc0 : sizes.length ≤ c0) (hc1 : secs.length ≤ c1) (hc2 : sq.length ≤ c2) (hn0 : 0 < sizes.length) (hn : sizes.length ≤ 6) :
    ∀ (k : Nat) (p best : List Int) (fin : Int) (r : List Int × Int) (w : World) (Ap : Option Addr) (cp : Nat),
      asg sizes secs pause sq k p best fin = some r → Safe bb be (Fix sizes secs pause sq A0 c0 A1 c1 A2 c2 bn bz bq bs bp bb be ba) w → Var B0 bb be best fin w →
      Safe bb be (fun W => Kd.C (Kd.int .i64) W Ap p.length p) w → p.length ≤ cp → p.length ≤ sizes.length → Okp sizes.length p →
      Calls Try.prog 41 #[.slice Ap p.length cp, .pointer (some ⟨bn, 0, none⟩), .pointer (some ⟨bz, 0, none⟩), .pointer (some ⟨bq, 0, none⟩), .pointer (some ⟨bs, 0, none⟩), .pointer (some ⟨bp, 0, none⟩), .pointer (some ⟨bb, 0, none⟩), .pointer (some ⟨be, 0, none⟩), .pointer (some ⟨ba, 0, none⟩)] w
        fun e w' => ∃ v, e = .returned v ∧ (Below 0 w w' ∧ Kept w w' (Two bb be)) ∧ Var B0 bb be r.1 r.2 w' := by
  intro k
  induction k using Nat.strongRecOn with
  | _ k IHall0 =>
    intro p best fin r w Ap cp h hE hV hp hcp hpl hok
    have IHall := Aside0.mk IHall0
    have EN0 := Aside0.mk hE
    have HV0 := Aside0.mk hV
    have HP0 := Aside0.mk hp
    have HOK := Aside0.mk hok
    clear IHall0 hE hV hp hok
    cases k with
    | zero => exact absurd h (by simp [asg])
    | succ k1 =>
      rw [asg] at h
      by_cases hfull : p.length = sizes.length
      · rw [if_pos hfull] at h
        obtain ⟨t, ht, h⟩ := Option.bind_eq_some_iff.mp h
        by_cases hlt : sizes.length < t.length
        · rw [if_pos hlt] at h
          have HT := Aside0.mk ht
          have HH := Aside0.mk h
          have HL := Aside0.mk hlt
          have HF := Aside0.mk hfull
          have cn := EN0.out.now.hbn
          have cd : ((p.length : Int) == (sizes.length : Int)) = true := beq_iff_eq.mpr (by omega)
          have h2 : (0 : Int) ≤ (sizes.length : Int) := by omega
          have HB := Aside0.mk (Below.refl w.heap.size w)
          have hN : ((sizes.length : Int)).toNat = sizes.length := Int.toNat_natCast _
          have HN := Aside0.mk hN
          clear h ht hlt hfull hN
          go_enter Try.func41, Try.ntmps41
          go_wp2_with ((with_reducible refine gate_dst (N := 21) rfl ?_); refine Kd.R_make (Kd.int .i64) (w0 := w) w.heap.size 3 rfl (N := 21) rfl 31 _ _ rfl (sizes.length : Int) rfl rfl Try.underlying31 (.int .i64 0) 8 info3 rfl (by decide) (by omega) 0 (ok := fun _ => True) (okp := fun _ => True) rfl (fun _ hk => hk) trivial h2 (by omega) HB.out (Nat.le_refl _) ?_; intro v6 w1 hoA hb hg hnew; rw [HN.out] at hoA; obtain ⟨ga, ca, rfl, hga, hca, hka⟩ := R_blk hoA hn0; have HGA := Aside0.mk hga; have HCA := Aside0.mk hca; have HKA := Aside0.mk hka; have HB1 := Aside0.mk hb; clear hoA hb hg hnew hga hca hka)
          go_loopg [24] p.length (fun gg s24 wr => ∃ i : Nat, i ≤ p.length ∧ p.length - i ≤ gg ∧ s24 = .int .i64 (i : Int) ∧ Aside0 (Blk wr ga 3 ca sizes.length (colV sizes p i)) ∧ Aside0 (Below w.heap.size w wr))
          case atStart =>
            have e : colV sizes p 0 = fun _ => .int .i64 0 := by funext j; unfold colV; rw [if_neg (by omega)]
            exact ⟨0, by omega, by omega, rfl, ⟨by rw [e]; exact HKA.out⟩, HB1⟩
          case round =>
            clear cn cd
            obtain ⟨i, hi, hgg, rfl, KA, HBr⟩ := hrel
            by_cases hlt : i < p.length
            · have hz1 : decide (i < p.length) = true := decide_eq_true hlt
              have hz2 : decide ((i : Int) < (p.length : Int)) = true := decide_eq_true (by omega)
              have hz3 : decide ((i : Int) < (sizes.length : Int)) = true := decide_eq_true (by have := HF.out; omega)
              have hz4 : decide (i < sizes.length) = true := decide_eq_true (by have := HF.out; omega)
              obtain ⟨ad, e1, hx⟩ := Kd.at_int (Kd.C_below HP0.out.now HBr.out) (i : Int) (by omega) (by omega)
              rw [Int.toNat_natCast] at hx
              cases e1
              have hmem : rd p (i : Int) ∈ p := by
                have e : rd p (i : Int) = p[i] := by unfold rd; simp [List.getD_eq_getElem?_getD, hlt]
                rw [e]; exact List.getElem_mem hlt
              obtain ⟨hr0, hr1⟩ := HOK.out _ hmem
              obtain ⟨ad2, e2, hx2⟩ := Kd.at_int (Kd.C_below EN0.out.now.hz HBr.out) (rd p (i : Int)) hr0 hr1
              have cz := (HBr.out.cell (World.block_lt_of_cell? w _ EN0.out.now.hbz)).trans EN0.out.now.hbz
              rw [e2] at cz
              have hz5 : decide (0 ≤ rd p (i : Int)) = true := decide_eq_true hr0
              have hz6 : decide (rd p (i : Int) < (sizes.length : Int)) = true := decide_eq_true hr1
              have hz7 : (0 ≤ rd p (i : Int)) = True := eq_true hr0
              have hz8 : (rd p (i : Int) < (sizes.length : Int)) = True := eq_true hr1
              obtain ⟨u3, hu3⟩ := KA.out.has i (by have := HCA.out; have := HF.out; omega)
              have hf3 := KA.out.frozen i
              have HLT := Aside0.mk hlt
              have hz9 : i < sizes.length := by have := HF.out; omega
              clear hmem hr0 hr1 e2
              go_wp2
              go_roundg (p.length - (i + 1))
              case measure => have := HLT.out; omega
              case rel => exact ⟨i + 1, by have := HLT.out; omega, by have := HLT.out; omega, by have := HLT.out; first | go_num | (congr 1; unfold wrap64; omega), ⟨KA.out.set i (by have := HLT.out; have := HCA.out; have := HF.out; omega) _ _ (fun j hj => by
                  unfold colV
                  by_cases e : j = i
                  · subst e; rw [if_pos (by omega), if_pos rfl]
                  · rw [if_neg e]
                    by_cases e2 : j < i
                    · rw [if_pos (by omega), if_pos e2]
                    · rw [if_neg (by omega), if_neg e2]) (fun j hj => .inr hj)⟩, ⟨below_set HBr.out HGA.out⟩⟩
            · obtain rfl : i = p.length := by omega
              have hz1 : decide (p.length < p.length) = false := decide_eq_false (by omega)
              have hz2 : decide ((p.length : Int) < (p.length : Int)) = false := decide_eq_false (by omega)
              have hcl : (p.map fun x => rd sizes x).length = sizes.length := by rw [List.length_map]; exact HF.out
              have hcol := col_row sizes p HF.out (n := sizes.length) (by have h := KA.out; rw [HF.out] at h; exact h) (by omega)
              have hcall : Calls Try.prog 40 #[.slice A2 sq.length c2, .slice (some ⟨ga, 0, none⟩) sizes.length ca, .slice A1 secs.length c1, .int .i64 pause] wr fun e w' => ∃ v0_ : Value, e = .returned (v0_) ∧ Kd.R (Kd.int .i64) 3 w' wr.heap.size (fun _ => True) v0_ t ∧ Below wr.heap.size wr w' := by
                have h := rotation_times.calls k1 A2 c2 sq (some ⟨ga, 0, none⟩) ca (p.map fun x => rd sizes x) A1 c1 secs pause t wr (Kd.C_below EN0.out.now.hq HBr.out) hc2 (by rw [hcl]; exact hcol) (by rw [hcl]; exact HCA.out) (Kd.C_below EN0.out.now.hs HBr.out) hc1 HT.out
                rw [hcl] at h
                exact h
              have HCALL := Aside0.mk hcall
              have cq := (HBr.out.cell (World.block_lt_of_cell? w _ EN0.out.now.hbq)).trans EN0.out.now.hbq
              have cs := (HBr.out.cell (World.block_lt_of_cell? w _ EN0.out.now.hbs)).trans EN0.out.now.hbs
              have cp' := (HBr.out.cell (World.block_lt_of_cell? w _ EN0.out.now.hbp)).trans EN0.out.now.hbp
              clear hcol hcall hcl
              go_upto_region 9 with (go_at_call 40; refine HCALL.out.mono ?_; rintro e w4 ⟨v4, rfl, hR4, hB4⟩; obtain ⟨A4, c4, rfl⟩ := Kd.R_slice hR4; obtain ⟨ad4, e4, hx4⟩ := Kd.at_int (Kd.R_reads' hR4).2.2 (sizes.length : Int) (by omega) (by have := HL.out; omega); rw [Int.toNat_natCast] at hx4; cases e4; have HB4 := Aside0.mk (HBr.out.trans (hB4.mono HBr.out.size)); clear hR4 hB4; have cn := (HB4.out.cell (World.block_lt_of_cell? w _ EN0.out.now.hbn)).trans EN0.out.now.hbn; have hz9 : sizes.length < t.length := HL.out; have hz11 : ((sizes.length : Int) < (t.length : Int)) = True := eq_true (by omega); have hz10 : decide ((sizes.length : Int) < (t.length : Int)) = true := decide_eq_true (by have := HL.out; omega); have HV4 := Aside0.mk (HV0.out.step (Kept.of_below HB4.out _)); have hcbe := (blk_cell HV4.out.hbe 0).trans rfl; obtain ⟨bv, hbv, hcase⟩ := HV4.out.hbb; have hcbb := (blk_cell hbv 0).trans rfl; have HCASE := Aside0.mk hcase; have HBV := Aside0.mk hbv; clear hcase hbv)
              have hu31 := Try.underlying31
              have hq : ∀ (w : World) (a : Option Addr) (n c : Nat), (binOp .eql 31 (.slice a n c) (.slice none 0 0)).run Try.prog w = .ok (.bool a.isNone) w := fun w a n c => Lib.run_eql_slice_nil w _ _ a n c 0 0 hu31
              rcases HCASE.out with ⟨hb0, rfl⟩ | ⟨hb0, hRb⟩
              · have h := HH.out
                rw [if_pos (.inl hb0)] at h
                obtain rfl := Option.some.inj h
                have HB0 := Aside0.mk hb0
                clear h hb0
                go_wp2_with (go_at_call 42; refine (clone_calls Ap cp p w4 (HP0.out.step (Kept.of_below HB4.out _)).now hcp (by omega)).mono ?_; rintro e w5 ⟨v5, rfl, hR5, hB5⟩; obtain ⟨g5, cap5, rfl, _⟩ := Kd.R_form hR5 (by have := HF.out; omega); have HR5 := Aside0.mk hR5; have HB5 := Aside0.mk hB5; have HV5 := Aside0.mk (HV4.out.step (Kept.of_below hB5 _)); have hf1 := blk_frozen HV5.out.hbe 0; have hc5 := (blk_cell HV5.out.hbe 0).trans rfl; obtain ⟨bv5, hbv5, _⟩ := HV5.out.hbb; have hf2 := blk_frozen hbv5 0; have hc6 := (blk_cell hbv5 0).trans rfl; have HBV5 := Aside0.mk hbv5; have HNE := Aside0.mk HV5.out.hne; have hbe2 := blk_far (p := ⟨bb, 0, none⟩) HV5.out.hbe (fun e => HNE.out e.symm) (.slice (some ⟨g5, 0, none⟩) p.length cap5); have hc7 := (blk_cell hbe2 0).trans rfl; have hf7 := blk_frozen hbe2 0; clear hR5 hB5 hbv5 hbe2)
                (try simp only [Exit.inBlock, Exit.then])
                refine bodyPost_ret (results_none rfl _ _ _) rfl ?_
                exact ⟨⟨_, rfl⟩, ⟨(((HB4.out.mono (Nat.zero_le _)).trans (HB5.out.mono (Nat.zero_le _))).setCell (Nat.zero_le _) _).setCell (Nat.zero_le _) _, fin_kept HB4.out HB5.out _ _⟩, fin_var HNE.out HV4.out.hB HB5.out.size HBV5.out HV5.out.hbe HR5.out (by have := HF.out; omega) (fun k hk => by have := HV4.out.lt k hk; exact this) _⟩
              · obtain ⟨gbv, capb, rfl, _⟩ := Kd.R_form hRb (List.length_pos_iff.mpr hb0)
                by_cases hlast : rd t (sizes.length : Int) < fin
                · have h := HH.out
                  rw [if_pos (.inr hlast)] at h
                  obtain rfl := Option.some.inj h
                  have hl1 : decide (rd t (sizes.length : Int) < fin) = true := decide_eq_true hlast
                  clear h hb0 hRb hlast
                  go_wp2_with (go_at_call 42; refine (clone_calls Ap cp p w4 (HP0.out.step (Kept.of_below HB4.out _)).now hcp (by omega)).mono ?_; rintro e w5 ⟨v5, rfl, hR5, hB5⟩; obtain ⟨g5, cap5, rfl, _⟩ := Kd.R_form hR5 (by have := HF.out; omega); have HR5 := Aside0.mk hR5; have HB5 := Aside0.mk hB5; have HV5 := Aside0.mk (HV4.out.step (Kept.of_below hB5 _)); have hf1 := blk_frozen HV5.out.hbe 0; have hc5 := (blk_cell HV5.out.hbe 0).trans rfl; obtain ⟨bv5, hbv5, _⟩ := HV5.out.hbb; have hf2 := blk_frozen hbv5 0; have hc6 := (blk_cell hbv5 0).trans rfl; have HBV5 := Aside0.mk hbv5; have HNE := Aside0.mk HV5.out.hne; have hbe2 := blk_far (p := ⟨bb, 0, none⟩) HV5.out.hbe (fun e => HNE.out e.symm) (.slice (some ⟨g5, 0, none⟩) p.length cap5); have hc7 := (blk_cell hbe2 0).trans rfl; have hf7 := blk_frozen hbe2 0; clear hR5 hB5 hbv5 hbe2)
                  (try simp only [Exit.inBlock, Exit.then])
                  refine bodyPost_ret (results_none rfl _ _ _) rfl ?_
                  exact ⟨⟨_, rfl⟩, ⟨(((HB4.out.mono (Nat.zero_le _)).trans (HB5.out.mono (Nat.zero_le _))).setCell (Nat.zero_le _) _).setCell (Nat.zero_le _) _, fin_kept HB4.out HB5.out _ _⟩, fin_var HNE.out HV4.out.hB HB5.out.size HBV5.out HV5.out.hbe HR5.out (by have := HF.out; omega) (fun k hk => by have := HV4.out.lt k hk; exact this) _⟩
                · have h := HH.out
                  rw [if_neg (fun h => h.elim hb0 hlast)] at h
                  obtain rfl := Option.some.inj h
                  have hl1 : decide (rd t (sizes.length : Int) < fin) = false := decide_eq_false hlast
                  clear h hb0 hRb hlast
                  go_wp2
                  (try simp only [Exit.inBlock, Exit.then])
                  refine bodyPost_ret (results_none rfl _ _ _) rfl ?_
                  exact ⟨⟨_, rfl⟩, ⟨HB4.out.mono (Nat.zero_le _), Kept.of_below HB4.out _⟩, HV4.out⟩
        · rw [if_neg hlt] at h; exact absurd h (by simp)
      · rw [if_neg hfull] at h
        have HA := Aside0.mk h
        have cn := EN0.out.now.hbn
        have cd : ((p.length : Int) == (sizes.length : Int)) = false := beq_eq_false_iff_ne.mpr (by omega)
        have HF := Aside0.mk hfull
        clear h hfull
        go_enter Try.func41, Try.ntmps41
        go_wp2
        go_loopg [57] k1 (fun kq s57 w' => ∃ (g : Nat) (best' : List Int) (fin' : Int), s57 = .int .i64 (g : Int) ∧ Aside0 (asgL sizes secs pause sq kq p best' fin' g = some r) ∧ Aside0 (kq ≤ k1) ∧ Aside0 (Kept w w' (Two bb be)) ∧ Aside0 (Below 0 w w') ∧ Aside0 (Var B0 bb be best' fin' w'))
        case atStart => exact ⟨0, best, fin, rfl, HA, ⟨Nat.le_refl _⟩, ⟨Kept.refl _ _⟩, ⟨Below.refl 0 w⟩, HV0⟩
        case round =>
          clear HA cn cd
          obtain ⟨g, best', fin', rfl, HA, HK, HW, HZ, HV⟩ := hrel
          cases gk with
          | zero => exact absurd HA.out (by simp [asgL])
          | succ kk =>
            have h := HA.out
            rw [asgL] at h
            clear HA
            have EN1 := Aside0.mk (EN0.out.step HW.out)
            have HP1 := Aside0.mk (HP0.out.step HW.out)
            by_cases hg : g < sizes.length
            · rw [if_pos hg] at h
              have hgz : decide ((g : Int) < (sizes.length : Int)) = true := decide_eq_true (by omega)
              have hgz1 : decide (g < sizes.length) = true := decide_eq_true hg
              have HG := Aside0.mk hg
              by_cases hm : (g : Int) ∈ p
              · rw [if_pos hm] at h
                have HA1 := Aside0.mk h
                have hcon := slices_Contains_int_int.calls (p.length + 1) Ap cp p (g : Int) true wr HP1.out.now hcp (by rw [contains_plain p _ (by omega), decide_eq_true hm])
                have HC := Aside0.mk hcon
                clear h hm hcon hg
                go_wp2_with (go_at_call 43; refine HC.out.mono ?_; rintro e w2 ⟨rfl, ⟨nd, rfl⟩⟩)
                go_roundg kk
                case measure => omega
                case rel => exact ⟨g + 1, best', fin', by have := HG.out; first | go_num | (congr 1; unfold wrap64; omega), HA1, ⟨by have := HK.out; omega⟩, ⟨HW.out.drewN _⟩, ⟨pw_below_drewN HZ.out _⟩, ⟨HV.out.step ((Kept.refl _ _).drewN _)⟩⟩
              · rw [if_neg hm] at h
                obtain ⟨s, hs, h⟩ := Option.bind_eq_some_iff.mp h
                have HA1 := Aside0.mk hs
                have HA2 := Aside0.mk h
                have hcon := slices_Contains_int_int.calls (p.length + 1) Ap cp p (g : Int) false wr HP1.out.now hcp (by rw [contains_plain p _ (by omega), decide_eq_false hm])
                have HC := Aside0.mk hcon
                clear h hm hcon hs
                go_wp2_with (go_at_call 43; refine HC.out.mono ?_; rintro e w2 ⟨rfl, ⟨nd, rfl⟩⟩)
                have hkA : Kept wr (wr.drewN nd).drew (Two bb be) := ((Kept.refl wr _).drewN nd).drew
                have hkF : Kept wr (wr.drewN nd).drew (fun _ => False) := ((Kept.refl wr _).drewN nd).drew
                have EN := Aside0.mk (EN1.out.step hkA)
                have HPA0 := Aside0.mk (HP1.out.step hkA)
                have HPA := Aside0.mk (HPA0.out.now)
                have HV1 := Aside0.mk (HV.out.step hkF)
                have HWA := Aside0.mk (HW.out.then_ hkA (fun _ h => .inl h))
                have HZA := Aside0.mk (below_drew1 (pw_below_drewN HZ.out nd))
                have hHeldA := EN.out.now.hba
                have IH := Aside0.mk (IHall.out kk (by have := HK.out; omega))
                clear hkA hkF HC
                refine start_ (n := 7) (S := fun w' => w'.cell? ⟨ba, 0, none⟩ = some (.func (.func 41) #[] #[.pointer (some ⟨bn, 0, none⟩), .pointer (some ⟨bz, 0, none⟩), .pointer (some ⟨bq, 0, none⟩), .pointer (some ⟨bs, 0, none⟩), .pointer (some ⟨bp, 0, none⟩), .pointer (some ⟨bb, 0, none⟩), .pointer (some ⟨be, 0, none⟩), .pointer (some ⟨ba, 0, none⟩)])) (ds := []) #[false, false, false, false, false, false, false] (by kernel_rfl) rfl rfl (hHeldA) (fun hHeld => ?_)
                generalize (wr.drewN nd).drew = wA at EN HPA0 HPA HV1 HWA HZA hHeldA hHeld ⊢
                refine with_tabW Shortest_1.tab15 Shortest_1.bits15 (fun HT_ HW_ => ?_)
                refine pure_ (i := 1) (N := some 65) (v := ?_) (a' := ?_) #[false, true, false, false, false, false, false] rfl rfl (any_of HT_.out (by kernel_rfl)) (fun _ _ _ h => h) (Or.inl ⟨by rfl, ?_⟩) ?_ ?_
                rotate_left
                · intro w'
                  go_simp
                  with_reducible rfl
                rotate_left
                · simp only [Act.put, List.setIfInBounds_toArray, List.set_cons_zero, List.set_cons_succ, i64_w, i32_w]
                  rfl
                refine pure_ (i := 3) (N := some 67) (v := ?_) (a' := ?_) #[false, true, false, true, false, false, false] rfl rfl (any_of HT_.out (by kernel_rfl)) (fun _ _ _ h => h) (Or.inl ⟨by rfl, ?_⟩) ?_ ?_
                rotate_left
                · intro w'
                  go_simp
                  with_reducible rfl
                rotate_left
                · simp only [Act.put, List.setIfInBounds_toArray, List.set_cons_zero, List.set_cons_succ, i64_w, i32_w]
                  rfl
                refine take_ (i := 0) (N := some 64) (v := ?_) (a' := ?_) #[true, true, false, true, false, false, false] rfl rfl (take_ofW HT_.out HW_.out (by kernel_rfl)) (fun _ _ _ h => h) (Or.inl ⟨by rfl, ?_⟩) hHeld ?_ ?_
                rotate_left
                · intro w' s0
                  go_simp
                  with_reducible rfl
                rotate_left
                · simp only [Act.put, List.setIfInBounds_toArray, List.set_cons_zero, List.set_cons_succ, i64_w, i32_w]
                  rfl
                refine join_ (σ := Value × Nat) 2 #[true, true, true, true, true, false, false] (fun s_ => [(66, s_.1), (68, .slice (some ⟨s_.2, 0, none⟩) 1 1)]) (fun s_ w' => ForkF wA ba (.func (.func 41) #[] #[.pointer (some ⟨bn, 0, none⟩), .pointer (some ⟨bz, 0, none⟩), .pointer (some ⟨bq, 0, none⟩), .pointer (some ⟨bs, 0, none⟩), .pointer (some ⟨bp, 0, none⟩), .pointer (some ⟨bb, 0, none⟩), .pointer (some ⟨be, 0, none⟩), .pointer (some ⟨ba, 0, none⟩)]) p (g : Int) s_ w') ?_ ?_
                rotate_left
                · intro hCont
                  refine two_ (i := 2) (j := 4) (Ni := some 66) (Nj := some 68) #[true, true, true, true, false, false, false] #[true, true, false, true, true, false, false] rfl rfl rfl rfl (two_of HT_.out (by kernel_rfl)) (by decide) (by decide) (fun K hK => ?_) (fun K hK => ?_)
                  · skip
                    have hBelow := Below.refl wA.heap.size wA
                    refine goes_ Try.func42 (by kernel_rfl) rfl #[.slice Ap p.length cp] (by rfl) rfl rfl (by simp only [List.map_toArray, List.map_cons, List.map_nil]; rfl) ?_
                    with_reducible refine (clone_calls Ap cp p _ (Kd.C_below HPA.out hBelow) hcp (by omega)).mono ?_
                    rintro e w3 ⟨v3, rfl, hR3, hB3⟩
                    refine ⟨_, rfl, ?_⟩
                    have hF := fork_clone g hR3 hB3 hHeld
                    refine hK.out _ _ (hF.1) (fun hHeld => ?_)
                    clear hK K
                    refine norm_ (a' := ?_) ?_ ?_
                    rotate_left
                    · show Act.put _ (some 66) _ = _
                      simp only [Act.put, List.setIfInBounds_toArray, List.set_cons_zero, List.set_cons_succ, i64_w, i32_w]
                      rfl
                    refine one_ (i := 4) (N := some 68) #[true, true, true, true, true, false, false] rfl rfl (one_of HT_.out (by kernel_rfl)) (by decide) (fun K hK => ?_)
                    refine value_ (w1 := ?_) (v := ?_) (by rfl) rfl ?_ ?_
                    rotate_left 2
                    · go_simp
                      constructor
                      · rfl
                      · rfl
                    have hMade := fork_cell (o := .cells #[.int .i64 (g : Int)] 3) hHeld
                    refine hK.out _ _ (hMade) (fun hHeld => ?_)
                    clear hK K
                    refine norm_ (a' := ?_) ?_ ?_
                    rotate_left
                    · show Act.put _ (some 68) _ = _
                      simp only [Act.put, List.setIfInBounds_toArray, List.set_cons_zero, List.set_cons_succ, i64_w, i32_w]
                      rfl
                    exact norm_ (by simp only [putAll, Act.put, List.setIfInBounds_toArray, List.set_cons_zero, List.set_cons_succ]) (hCont (v3, w3.heap.size) _ hF.2)
                  · skip
                    refine value_ (w1 := ?_) (v := ?_) (by rfl) rfl ?_ ?_
                    rotate_left 2
                    · go_simp
                      constructor
                      · rfl
                      · rfl
                    have hHeld0 := hHeld
                    have hMade := fork_cell (o := .cells #[.int .i64 (g : Int)] 3) hHeld
                    refine hK.out _ _ (hMade) (fun hHeld => ?_)
                    clear hK K
                    refine norm_ (a' := ?_) ?_ ?_
                    rotate_left
                    · show Act.put _ (some 68) _ = _
                      simp only [Act.put, List.setIfInBounds_toArray, List.set_cons_zero, List.set_cons_succ, i64_w, i32_w]
                      rfl
                    refine one_ (i := 2) (N := some 66) #[true, true, true, true, true, false, false] rfl rfl (one_of HT_.out (by kernel_rfl)) (by decide) (fun K hK => ?_)
                    have hBelow := fork_made wA (g : Int)
                    refine goes_ Try.func42 (by kernel_rfl) rfl #[.slice Ap p.length cp] (by rfl) rfl rfl (by simp only [List.map_toArray, List.map_cons, List.map_nil]; rfl) ?_
                    with_reducible refine (clone_calls Ap cp p _ (Kd.C_below HPA.out hBelow) hcp (by omega)).mono ?_
                    rintro e w3 ⟨v3, rfl, hR3, hB3⟩
                    refine ⟨_, rfl, ?_⟩
                    have hF := fork_clone2 g hR3 hB3 hHeld0
                    refine hK.out _ _ (hF.1) (fun hHeld => ?_)
                    clear hK K
                    refine norm_ (a' := ?_) ?_ ?_
                    rotate_left
                    · show Act.put _ (some 66) _ = _
                      simp only [Act.put, List.setIfInBounds_toArray, List.set_cons_zero, List.set_cons_succ, i64_w, i32_w]
                      rfl
                    exact norm_ (by simp only [putAll, Act.put, List.setIfInBounds_toArray, List.set_cons_zero, List.set_cons_succ]) (hCont (v3, wA.heap.size) _ hF.2)
                rintro ⟨v3, b3⟩ w5 ⟨hHeld, hR5, hC5, hB5⟩
                have HR5 := Aside0.mk hR5
                have HC5 := Aside0.mk hC5
                have HB5 := Aside0.mk hB5
                clear hR5 hC5 hB5
                refine norm_ (a' := ?_) ?_ ?_
                rotate_left
                · simp only [putAll, Act.put, List.setIfInBounds_toArray, List.set_cons_zero, List.set_cons_succ]
                  rfl
                refine one_ (i := 5) (N := some 69) #[true, true, true, true, true, true, false] rfl rfl (one_of HT_.out (by kernel_rfl)) (by decide) (fun K hK => ?_)
                refine Kd.R_append_rows_step (Kd.int .i64) (w0 := wA) wA.heap.size (by rfl) (.tmp 66) (.tmp 68) 31 3 (.int .i64 0) 8 rfl Try.underlying31 info3 rfl (by decide) (by omega) v3 p [(g : Int)] _ _ _ (fun _ => True) (fun _ => False) rfl rfl HR5.out HC5.out (fun _ _ h => h) (fun _ h => h.elim) (fun _ _ => trivial) HB5.out HB5.out.size (by omega) ?_
                intro v6 w6 ho6 hb6 hg6 hat6
                have HR6 := Aside0.mk ho6
                have HB6 := Aside0.mk hb6
                clear ho6 hb6 hg6 hat6
                refine hK.out _ _ (((HB6.out.cell (World.block_lt_of_cell? wA _ hHeldA)).trans hHeldA)) (fun hHeld => ?_)
                clear hK K
                refine norm_ (a' := ?_) ?_ ?_
                rotate_left
                · show Act.put _ (some 69) _ = _
                  simp only [Act.put, List.setIfInBounds_toArray, List.set_cons_zero, List.set_cons_succ, i64_w, i32_w]
                  rfl
                refine one_ (i := 6) (N := some 70) #[true, true, true, true, true, true, true] rfl rfl (one_of HT_.out (by kernel_rfl)) (by decide) (fun K hK => ?_)
                obtain ⟨A6, c6, rfl⟩ := Kd.R_slice HR6.out
                have hL6 : (p ++ [(g : Int)]).length = p.length + 1 := by simp
                refine call_ 41 #[.slice A6 (p ++ [(g : Int)]).length c6, .pointer (some ⟨bn, 0, none⟩), .pointer (some ⟨bz, 0, none⟩), .pointer (some ⟨bq, 0, none⟩), .pointer (some ⟨bs, 0, none⟩), .pointer (some ⟨bp, 0, none⟩), .pointer (some ⟨bb, 0, none⟩), .pointer (some ⟨be, 0, none⟩), .pointer (some ⟨ba, 0, none⟩)] (by rfl) rfl (by kernel_rfl) ?_
                refine (IH.out _ _ _ _ _ _ _ HA1.out (EN.out.step (Kept.of_below HB6.out _)) (HV1.out.step (Kept.of_below HB6.out _)) (own_safe HR6.out HV1.out.lt) ?hc6 ?hl6 ?hp6).mono ?_
                case hc6 => exact (Kd.R_reads' HR6.out).2.1
                case hl6 => have := HF.out; omega
                case hp6 => exact okp_snoc HOK.out hg
                rintro e w7 ⟨v7, rfl, ⟨hZ7, hK7⟩, hV7⟩
                refine ⟨_, rfl, ?_⟩
                have HK7 := Aside0.mk ((Kept.of_below HB6.out _).then_ hK7 (fun _ h => .inl h))
                have HV7 := Aside0.mk hV7
                have HZ7 := Aside0.mk ((HB6.out.mono (Nat.zero_le _)).trans hZ7)
                clear hK7 hV7 hZ7
                refine hK.out _ _ ((((EN.out.step HK7.out).now).hba)) (fun hHeld => ?_)
                clear hK K
                refine norm_ (a' := ?_) ?_ ?_
                rotate_left
                · show Act.put _ (some 70) _ = _
                  simp only [Act.put, List.setIfInBounds_toArray, List.set_cons_zero, List.set_cons_succ, i64_w, i32_w]
                  rfl
                refine done_ (done_of HT_.out (by kernel_rfl)) ?_
                go_wp2
                go_roundg kk
                case measure => omega
                case rel => exact ⟨g + 1, s.1, s.2, by have := HG.out; first | go_num | (congr 1; unfold wrap64; omega), HA2, ⟨by have := HK.out; omega⟩, ⟨HWA.out.then_ HK7.out (fun _ h => .inl h)⟩, ⟨HZA.out.trans HZ7.out⟩, HV7⟩
            · rw [if_neg hg] at h
              obtain rfl := Option.some.inj h
              have hgz : decide ((g : Int) < (sizes.length : Int)) = false := decide_eq_false (by omega)
              have hgz1 : decide (g < sizes.length) = false := decide_eq_false hg
              clear h hg
              go_wp2
              (try simp only [Exit.inBlock, Exit.then])
              refine bodyPost_end (results_none rfl _ _ _) rfl ?_
              exact ⟨⟨_, rfl⟩, ⟨HZ.out, HW.out⟩, HV.out⟩

/-! ### rotation_Shortest -/
def rotation_Shortest.f (k : Nat) (l0 : List Int) (l1 : List Int) (a2 : Int) : Option ((List Int) × Int × Int) :=
  if l0.length = 0 ∨ l1.length ≠ l0.length then some ([], 0, 1)
  else if 6 < l0.length then some ([], 0, 6)
  else (rotation_ranges.f l0 l1 a2).bind fun e => if e = 0 then (rotation_Cyclic.f k (l0.length : Int)).bind fun s => (asg l0 l1 a2 s.1 k [] [] 0).bind fun t => some (t.1, t.2, 0) else some ([], 0, e)
theorem rotation_Shortest.mono : ∀ a0 a1 a2 k, LeO (rotation_Shortest.f k a0 a1 a2) (rotation_Shortest.f (k + 1) a0 a1 a2) := by
  intro a0 a1 a2 k
  unfold rotation_Shortest.f
  exact LeO.ite (LeO.refl _) (LeO.ite (LeO.refl _) (LeO.bind (LeO.refl _) (fun _ => LeO.ite (LeO.bind (rotation_Cyclic.mono _ _) (fun _ => LeO.bind ((asg_mono _ _ _ _ _).1 _ _ _) (fun _ => LeO.refl _))) (LeO.refl _))))
def Shortest.T15 : Bool × List (List Nat × List Nat) := (true, [([], []), ([], []), ([0, 0], [0]), ([1, 2, 0, 1, 2], [1]), ([3, 0, 1, 2, 3], [])])
def Shortest.B15 : List Nat := [0, 0, 1, 7, 15]
theorem Shortest.tab15 : rtab .any (opsOf Try.f33 15) = Shortest.T15 := by kernel_rfl
theorem Shortest.bits15 : waitsOk Shortest.T15.2 Shortest.B15 = true := by kernel_rfl
set_option maxHeartbeats 4000000 in
set_option maxRecDepth 100000 in
theorem rotation_Shortest.calls (k : Nat) (A0 : Option Addr) (c0 : Nat) (l0 : List Int) (A1 : Option Addr) (c1 : Nat) (l1 : List Int) (a2 : Int) (r1 : List Int) (r2 : Int) (r3 : Int) (w : World) (hr0 : Kd.C (Kd.int .i64) w A0 l0.length l0) (hc0 : l0.length ≤ c0) (hr1 : Kd.C (Kd.int .i64) w A1 l1.length l1) (hc1 : l1.length ≤ c1) (h : rotation_Shortest.f k l0 l1 a2 = some (r1, r2, r3)) :
    Calls Try.prog 33 #[.slice A0 l0.length c0, .slice A1 l1.length c1, .int .i64 a2] w fun e w' => ∃ v0_ : Value, e = .returned (.tuple #[v0_, .int .i64 r2, .int .i64 r3]) ∧ Kd.R (Kd.int .i64) 3 w' w.heap.size (fun _ => True) v0_ r1 ∧ Below w.heap.size w w' := by
  unfold rotation_Shortest.f at h
  have HR0 := Aside0.mk hr0
  have HC0 := Aside0.mk hc0
  have HR1 := Aside0.mk hr1
  have HC1 := Aside0.mk hc1
  have HH := Aside0.mk h
  have HB := Aside0.mk (Below.refl w.heap.size w)
  clear hr0 hc0 hr1 hc1 h
  go_enter Try.func33, Try.ntmps33
  go_upto_region 1 with (first
    | ((with_reducible refine gate_dst (N := 3) rfl ?_); refine box_event ?hg (N := 3) ?hd (cs := #[.slice A0 l0.length c0]) (t := 31) ?hr ?_; (case hd => rfl); (case hg => rfl); (case hr => first | (go_simp; done) | (go_simp; rfl)); intro g3 hg w3 hbox hb; have Kg3 := Aside0.mk hbox; have Gg3 := Aside0.mk (show w.heap.size ≤ g3 by rw [hg]; exact below_size (by repeat (first | (with_reducible first | exact HB.out | apply below_alloc | apply pw_below_drewN | apply below_drew1) | exact HB.out))); have HBn := Aside0.mk (below_step (by repeat (first | (with_reducible first | exact HB.out | apply below_alloc | apply pw_below_drewN | apply below_drew1) | exact HB.out)) hb); clear HB; have HB := HBn; clear HBn; skip; skip; skip; clear hg hbox hb)
    | ((with_reducible refine gate_dst (N := 4) rfl ?_); refine box_event ?hg (N := 4) ?hd (cs := #[.slice A1 l1.length c1]) (t := 31) ?hr ?_; (case hd => rfl); (case hg => rfl); (case hr => first | (go_simp; done) | (go_simp; rfl)); intro g4 hg w4 hbox hb; have Kg4 := Aside0.mk hbox; have Gg4 := Aside0.mk (show w.heap.size ≤ g4 by rw [hg]; exact below_size (by repeat (first | (with_reducible first | exact HB.out | apply below_alloc | apply pw_below_drewN | apply below_drew1) | exact HB.out))); have HBn := Aside0.mk (below_step (by repeat (first | (with_reducible first | exact HB.out | apply below_alloc | apply pw_below_drewN | apply below_drew1) | exact HB.out)) hb); clear HB; have HB := HBn; clear HBn; have Lg3_g4 : g3 < g4 := (by rw [hg]; exact blk_lt Kg3.out); have n_ := Aside0.mk (blk_below Kg3.out hb); clear Kg3; have Kg3 := n_; clear n_; skip; clear hg hbox hb)
    | ((with_reducible refine gate_dst (N := 5) rfl ?_); refine box_event ?hg (N := 5) ?hd (cs := #[.int .i64 a2]) (t := 3) ?hr ?_; (case hd => rfl); (case hg => rfl); (case hr => first | (go_simp; done) | (go_simp; rfl)); intro g5 hg w5 hbox hb; have Kg5 := Aside0.mk hbox; have Gg5 := Aside0.mk (show w.heap.size ≤ g5 by rw [hg]; exact below_size (by repeat (first | (with_reducible first | exact HB.out | apply below_alloc | apply pw_below_drewN | apply below_drew1) | exact HB.out))); have HBn := Aside0.mk (below_step (by repeat (first | (with_reducible first | exact HB.out | apply below_alloc | apply pw_below_drewN | apply below_drew1) | exact HB.out)) hb); clear HB; have HB := HBn; clear HBn; have Lg3_g5 : g3 < g5 := (by rw [hg]; exact blk_lt Kg3.out); have Lg4_g5 : g4 < g5 := (by rw [hg]; exact blk_lt Kg4.out); have n_ := Aside0.mk (blk_below Kg3.out hb); clear Kg3; have Kg3 := n_; clear n_; have n_ := Aside0.mk (blk_below Kg4.out hb); clear Kg4; have Kg4 := n_; clear n_; skip; clear hg hbox hb))
  have h3 := (blk_cell Kg3.out 0).trans rfl
  go_upto_region 2 with (first
    | ((with_reducible refine gate_dst (N := 9) rfl ?_); refine box_event ?hg (N := 9) ?hd (cs := #[.int .i64 0]) (t := 3) ?hr ?_; (case hd => rfl); (case hg => rfl); (case hr => first | (go_simp; done) | (go_simp; rfl)); intro g9 hg w9 hbox hb; have Kg9 := Aside0.mk hbox; have Gg9 := Aside0.mk (show w.heap.size ≤ g9 by rw [hg]; exact below_size (by repeat (first | (with_reducible first | exact HB.out | apply below_alloc | apply pw_below_drewN | apply below_drew1) | exact HB.out))); have HBn := Aside0.mk (below_step (by repeat (first | (with_reducible first | exact HB.out | apply below_alloc | apply pw_below_drewN | apply below_drew1) | exact HB.out)) hb); clear HB; have HB := HBn; clear HBn; have Lg3_g9 : g3 < g9 := (by rw [hg]; exact blk_lt Kg3.out); have Lg4_g9 : g4 < g9 := (by rw [hg]; exact blk_lt Kg4.out); have Lg5_g9 : g5 < g9 := (by rw [hg]; exact blk_lt Kg5.out); have n_ := Aside0.mk (blk_below Kg3.out hb); clear Kg3; have Kg3 := n_; clear n_; have n_ := Aside0.mk (blk_below Kg4.out hb); clear Kg4; have Kg4 := n_; clear n_; have n_ := Aside0.mk (blk_below Kg5.out hb); clear Kg5; have Kg5 := n_; clear n_; have h9 := (blk_cell hbox 0).trans rfl; have f9 := blk_frozen hbox 0; clear hg hbox hb))
  clear h3 h9 f9
  obtain ⟨W2, hW2⟩ : ∃ W_, (w9.setCell ⟨g9, 0, none⟩ (.int .i64 (l0.length : Int))) = W_ := ⟨_, rfl⟩
  rw [hW2]
  have n_ := Aside0.mk (show W2.heap[g9]? = some (.cells #[.int .i64 (l0.length : Int)] 3 (0, 0)) by rw [← hW2]; exact blk_put Kg9.out 0 _ rfl)
  clear Kg9
  have Kg9 := n_
  clear n_
  have n_ := Aside0.mk (show W2.heap[g3]? = some _ by rw [← hW2]; exact blk_far (p := ⟨g9, 0, none⟩) Kg3.out (Nat.ne_of_lt Lg3_g9) _)
  clear Kg3
  have Kg3 := n_
  clear n_
  have n_ := Aside0.mk (show W2.heap[g4]? = some _ by rw [← hW2]; exact blk_far (p := ⟨g9, 0, none⟩) Kg4.out (Nat.ne_of_lt Lg4_g9) _)
  clear Kg4
  have Kg4 := n_
  clear n_
  have n_ := Aside0.mk (show W2.heap[g5]? = some _ by rw [← hW2]; exact blk_far (p := ⟨g9, 0, none⟩) Kg5.out (Nat.ne_of_lt Lg5_g9) _)
  clear Kg5
  have Kg5 := n_
  clear n_
  have n_ := Aside0.mk (show Below w.heap.size w W2 by rw [← hW2]; exact below_set (by repeat (first | (with_reducible first | exact HB.out | apply below_alloc | apply pw_below_drewN | apply below_drew1) | exact HB.out)) Gg9.out)
  clear HB
  have HB := n_
  clear n_
  have cg9 := (blk_cell Kg9.out 0).trans rfl
  have cg4 := (blk_cell Kg4.out 0).trans rfl
  by_cases e0 : l0.length = 0
  · have h := HH.out
    rw [if_pos (.inl e0)] at h
    have z0 : ((l0.length : Int) == 0) = true := beq_iff_eq.mpr (by omega)
    have z1 : l0 = [] := List.eq_nil_of_length_eq_zero e0
    obtain ⟨rfl, rfl, rfl⟩ : r1 = [] ∧ r2 = 0 ∧ r3 = 1 := by have h := Option.some.inj h; simp only [Prod.mk.injEq] at h; exact ⟨h.1.symm, h.2.1.symm, h.2.2.symm⟩
    clear h
    go_wp2
    go_ret3
    exact ⟨_, rfl, Kd.R_nil _ _ _ _ _, HB.out⟩
  by_cases e1 : l1.length = l0.length
  rotate_left
  · have h := HH.out
    rw [if_pos (.inr e1)] at h
    have z0 : ((l0.length : Int) == 0) = false := beq_eq_false_iff_ne.mpr (by omega)
    have z1 : ((l1.length : Int) != (l0.length : Int)) = true := bne_iff_ne.mpr (by omega)
    have z2 : l0 ≠ [] := by rintro rfl; exact e0 rfl
    obtain ⟨rfl, rfl, rfl⟩ : r1 = [] ∧ r2 = 0 ∧ r3 = 1 := by have h := Option.some.inj h; simp only [Prod.mk.injEq] at h; exact ⟨h.1.symm, h.2.1.symm, h.2.2.symm⟩
    clear h
    go_wp2
    go_ret3
    exact ⟨_, rfl, Kd.R_nil _ _ _ _ _, HB.out⟩
  have z0 : ((l0.length : Int) == 0) = false := beq_eq_false_iff_ne.mpr (by omega)
  have z1 : ((l1.length : Int) != (l0.length : Int)) = false := bne_eq_false_iff_eq.mpr (by omega)
  have z2 : l0 ≠ [] := by rintro rfl; exact e0 rfl
  by_cases e2 : 6 < l0.length
  · have h := HH.out
    rw [if_neg (fun h => h.elim e0 (fun h => h e1)), if_pos e2] at h
    have z3 : decide ((6 : Int) < (l0.length : Int)) = true := decide_eq_true (by omega)
    have z4 : decide (6 < l0.length) = true := decide_eq_true e2
    obtain ⟨rfl, rfl, rfl⟩ : r1 = [] ∧ r2 = 0 ∧ r3 = 6 := by have h := Option.some.inj h; simp only [Prod.mk.injEq] at h; exact ⟨h.1.symm, h.2.1.symm, h.2.2.symm⟩
    clear h
    go_wp2
    go_ret3
    exact ⟨_, rfl, Kd.R_nil _ _ _ _ _, HB.out⟩
  have z3 : decide ((6 : Int) < (l0.length : Int)) = false := decide_eq_false (by omega)
  have z4 : decide (6 < l0.length) = false := decide_eq_false e2
  have h := HH.out
  rw [if_neg (fun h => h.elim e0 (fun h => h e1)), if_neg e2] at h
  obtain ⟨e, he, h⟩ := Option.bind_eq_some_iff.mp h
  have HE := Aside0.mk he
  have HI := Aside0.mk h
  have E0 := Aside0.mk e0
  have E1 := Aside0.mk e1
  have E2 := Aside0.mk e2
  clear h he HH e0 e1 e2
  have cg3 := (blk_cell Kg3.out 0).trans rfl
  have cg5 := (blk_cell Kg5.out 0).trans rfl
  go_upto_region 7 with (go_at_call 39; refine (rotation_ranges.calls A0 c0 l0 A1 c1 l1 a2 e _ (Kd.C_below HR0.out HB.out) HC0.out (Kd.C_below HR1.out HB.out) HC1.out HE.out).mono ?_; rintro e_ w6 ⟨rfl, hb6⟩; have n_ := Aside0.mk (blk_below Kg3.out hb6); clear Kg3; have Kg3 := n_; clear n_; have n_ := Aside0.mk (blk_below Kg4.out hb6); clear Kg4; have Kg4 := n_; clear n_; have n_ := Aside0.mk (blk_below Kg5.out hb6); clear Kg5; have Kg5 := n_; clear n_; have n_ := Aside0.mk (blk_below Kg9.out hb6); clear Kg9; have Kg9 := n_; clear n_; have n_ := Aside0.mk (HB.out.trans (hb6.mono HB.out.size)); clear HB; have HB := n_; clear n_; clear hb6 cg3 cg4 cg5 cg9 hW2)
  by_cases e3 : e = 0
  rotate_left
  · have h := HI.out
    rw [if_neg e3] at h
    have z5 : (e != 0) = true := bne_iff_ne.mpr e3
    obtain ⟨rfl, rfl, rfl⟩ : r1 = [] ∧ r2 = 0 ∧ r3 = e := by have h := Option.some.inj h; simp only [Prod.mk.injEq] at h; exact ⟨h.1.symm, h.2.1.symm, h.2.2.symm⟩
    clear h
    go_wp2
    go_ret3
    exact ⟨_, rfl, Kd.R_nil _ _ _ _ _, HB.out⟩
  have h := HI.out
  rw [if_pos e3] at h
  obtain ⟨s, hs, h⟩ := Option.bind_eq_some_iff.mp h
  obtain ⟨t, ht, h⟩ := Option.bind_eq_some_iff.mp h
  obtain ⟨rfl, rfl, rfl⟩ : r1 = t.1 ∧ r2 = t.2 ∧ r3 = 0 := by have h := Option.some.inj h; simp only [Prod.mk.injEq] at h; exact ⟨h.1.symm, h.2.1.symm, h.2.2.symm⟩
  have z5 : (e != 0) = false := bne_eq_false_iff_eq.mpr e3
  obtain ⟨sq, s2⟩ := s
  have HS := Aside0.mk hs
  have HT := Aside0.mk ht
  clear h hs ht HI e3
  have cg9 := (blk_cell Kg9.out 0).trans rfl
  go_upto_region 10 with (first
    | (go_at_call 14; refine (rotation_Cyclic.calls k (l0.length : Int) sq s2 _ HS.out).mono ?_; rintro e_ w7 ⟨v7, rfl, hS7, hb7⟩; obtain ⟨A2, c2, rfl⟩ := Kd.R_slice (Kd.S_R hS7); have hS7r := Kd.R_reads' (Kd.S_R hS7); have HS7 := Aside0.mk hS7r; have n_ := Aside0.mk (blk_below Kg3.out hb7); clear Kg3; have Kg3 := n_; clear n_; have n_ := Aside0.mk (blk_below Kg4.out hb7); clear Kg4; have Kg4 := n_; clear n_; have n_ := Aside0.mk (blk_below Kg5.out hb7); clear Kg5; have Kg5 := n_; clear n_; have n_ := Aside0.mk (blk_below Kg9.out hb7); clear Kg9; have Kg9 := n_; clear n_; have n_ := Aside0.mk (HB.out.trans (hb7.mono HB.out.size)); clear HB; have HB := n_; clear n_; have HB7 := Aside0.mk (Below.refl w7.heap.size w7); clear hb7 hS7 hS7r cg9)
    | ((with_reducible refine gate_dst (N := 11) rfl ?_); refine box_event ?hg (N := 11) ?hd (cs := #[.slice none 0 0]) (t := 23) ?hr ?_; (case hd => rfl); (case hg => rfl); (case hr => first | (go_simp; done) | (go_simp; rfl)); intro g11 hg w11 hbox hb; have Kg11 := Aside0.mk hbox; have Gg11 := Aside0.mk (show w.heap.size ≤ g11 by rw [hg]; exact below_size (by repeat (first | (with_reducible first | exact HB.out | apply below_alloc | apply pw_below_drewN | apply below_drew1) | exact HB.out))); have HBn := Aside0.mk (below_step (by repeat (first | (with_reducible first | exact HB.out | apply below_alloc | apply pw_below_drewN | apply below_drew1) | exact HB.out)) hb); clear HB; have HB := HBn; clear HBn; have Lg3_g11 : g3 < g11 := (by rw [hg]; exact blk_lt Kg3.out); have Lg4_g11 : g4 < g11 := (by rw [hg]; exact blk_lt Kg4.out); have Lg5_g11 : g5 < g11 := (by rw [hg]; exact blk_lt Kg5.out); have Lg9_g11 : g9 < g11 := (by rw [hg]; exact blk_lt Kg9.out); have n_ := Aside0.mk (blk_below Kg3.out hb); clear Kg3; have Kg3 := n_; clear n_; have n_ := Aside0.mk (blk_below Kg4.out hb); clear Kg4; have Kg4 := n_; clear n_; have n_ := Aside0.mk (blk_below Kg5.out hb); clear Kg5; have Kg5 := n_; clear n_; have n_ := Aside0.mk (blk_below Kg9.out hb); clear Kg9; have Kg9 := n_; clear n_; have Mg11 := Aside0.mk (show w7.heap.size ≤ g11 by rw [hg]; exact below_size (by repeat (first | (with_reducible first | exact HB7.out | apply below_alloc | apply pw_below_drewN | apply below_drew1) | exact HB7.out))); have n_ := Aside0.mk (below_step (by repeat (first | (with_reducible first | exact HB7.out | apply below_alloc | apply pw_below_drewN | apply below_drew1) | exact HB7.out)) hb); clear HB7; have HB7 := n_; clear n_; have h11 := (blk_cell hbox 0).trans rfl; have f11 := blk_frozen hbox 0; clear hg hbox hb))
  clear h11 f11
  obtain ⟨W3, hW3⟩ : ∃ W_, (w11.setCell ⟨g11, 0, none⟩ (.slice (A2) sq.length c2)) = W_ := ⟨_, rfl⟩
  rw [hW3]
  have n_ := Aside0.mk (show W3.heap[g11]? = some (.cells #[.slice (A2) sq.length c2] 23 (0, 0)) by rw [← hW3]; exact blk_put Kg11.out 0 _ rfl)
  clear Kg11
  have Kg11 := n_
  clear n_
  have n_ := Aside0.mk (show W3.heap[g3]? = some _ by rw [← hW3]; exact blk_far (p := ⟨g11, 0, none⟩) Kg3.out (Nat.ne_of_lt Lg3_g11) _)
  clear Kg3
  have Kg3 := n_
  clear n_
  have n_ := Aside0.mk (show W3.heap[g4]? = some _ by rw [← hW3]; exact blk_far (p := ⟨g11, 0, none⟩) Kg4.out (Nat.ne_of_lt Lg4_g11) _)
  clear Kg4
  have Kg4 := n_
  clear n_
  have n_ := Aside0.mk (show W3.heap[g5]? = some _ by rw [← hW3]; exact blk_far (p := ⟨g11, 0, none⟩) Kg5.out (Nat.ne_of_lt Lg5_g11) _)
  clear Kg5
  have Kg5 := n_
  clear n_
  have n_ := Aside0.mk (show W3.heap[g9]? = some _ by rw [← hW3]; exact blk_far (p := ⟨g11, 0, none⟩) Kg9.out (Nat.ne_of_lt Lg9_g11) _)
  clear Kg9
  have Kg9 := n_
  clear n_
  have n_ := Aside0.mk (show Below w.heap.size w W3 by rw [← hW3]; exact below_set (by repeat (first | (with_reducible first | exact HB.out | apply below_alloc | apply pw_below_drewN | apply below_drew1) | exact HB.out)) Gg11.out)
  clear HB
  have HB := n_
  clear n_
  have n_ := Aside0.mk (show Below w7.heap.size w7 W3 by rw [← hW3]; exact below_set (by repeat (first | (with_reducible first | exact HB7.out | apply below_alloc | apply pw_below_drewN | apply below_drew1) | exact HB7.out)) Mg11.out)
  clear HB7
  have HB7 := n_
  clear n_
  clear hW3
  go_upto_region 11 with (first
    | ((with_reducible refine gate_dst (N := 13) rfl ?_); refine box_event ?hg (N := 13) ?hd (cs := #[.slice none 0 0]) (t := 31) ?hr ?_; (case hd => rfl); (case hg => rfl); (case hr => first | (go_simp; done) | (go_simp; rfl)); intro g13 hg w13 hbox hb; have Kg13 := Aside0.mk hbox; have Gg13 := Aside0.mk (show w.heap.size ≤ g13 by rw [hg]; exact below_size (by repeat (first | (with_reducible first | exact HB.out | apply below_alloc | apply pw_below_drewN | apply below_drew1) | exact HB.out))); have HBn := Aside0.mk (below_step (by repeat (first | (with_reducible first | exact HB.out | apply below_alloc | apply pw_below_drewN | apply below_drew1) | exact HB.out)) hb); clear HB; have HB := HBn; clear HBn; have Lg3_g13 : g3 < g13 := (by rw [hg]; exact blk_lt Kg3.out); have Lg4_g13 : g4 < g13 := (by rw [hg]; exact blk_lt Kg4.out); have Lg5_g13 : g5 < g13 := (by rw [hg]; exact blk_lt Kg5.out); have Lg9_g13 : g9 < g13 := (by rw [hg]; exact blk_lt Kg9.out); have Lg11_g13 : g11 < g13 := (by rw [hg]; exact blk_lt Kg11.out); have n_ := Aside0.mk (blk_below Kg3.out hb); clear Kg3; have Kg3 := n_; clear n_; have n_ := Aside0.mk (blk_below Kg4.out hb); clear Kg4; have Kg4 := n_; clear n_; have n_ := Aside0.mk (blk_below Kg5.out hb); clear Kg5; have Kg5 := n_; clear n_; have n_ := Aside0.mk (blk_below Kg9.out hb); clear Kg9; have Kg9 := n_; clear n_; have n_ := Aside0.mk (blk_below Kg11.out hb); clear Kg11; have Kg11 := n_; clear n_; have Mg13 := Aside0.mk (show w7.heap.size ≤ g13 by rw [hg]; exact below_size (by repeat (first | (with_reducible first | exact HB7.out | apply below_alloc | apply pw_below_drewN | apply below_drew1) | exact HB7.out))); have n_ := Aside0.mk (below_step (by repeat (first | (with_reducible first | exact HB7.out | apply below_alloc | apply pw_below_drewN | apply below_drew1) | exact HB7.out)) hb); clear HB7; have HB7 := n_; clear n_; clear hg hbox hb))
  go_upto_region 12 with (first
    | ((with_reducible refine gate_dst (N := 14) rfl ?_); refine box_event ?hg (N := 14) ?hd (cs := #[.int .i64 0]) (t := 3) ?hr ?_; (case hd => rfl); (case hg => rfl); (case hr => first | (go_simp; done) | (go_simp; rfl)); intro g14 hg w14 hbox hb; have Kg14 := Aside0.mk hbox; have Gg14 := Aside0.mk (show w.heap.size ≤ g14 by rw [hg]; exact below_size (by repeat (first | (with_reducible first | exact HB.out | apply below_alloc | apply pw_below_drewN | apply below_drew1) | exact HB.out))); have HBn := Aside0.mk (below_step (by repeat (first | (with_reducible first | exact HB.out | apply below_alloc | apply pw_below_drewN | apply below_drew1) | exact HB.out)) hb); clear HB; have HB := HBn; clear HBn; have Lg3_g14 : g3 < g14 := (by rw [hg]; exact blk_lt Kg3.out); have Lg4_g14 : g4 < g14 := (by rw [hg]; exact blk_lt Kg4.out); have Lg5_g14 : g5 < g14 := (by rw [hg]; exact blk_lt Kg5.out); have Lg9_g14 : g9 < g14 := (by rw [hg]; exact blk_lt Kg9.out); have Lg11_g14 : g11 < g14 := (by rw [hg]; exact blk_lt Kg11.out); have Lg13_g14 : g13 < g14 := (by rw [hg]; exact blk_lt Kg13.out); have n_ := Aside0.mk (blk_below Kg3.out hb); clear Kg3; have Kg3 := n_; clear n_; have n_ := Aside0.mk (blk_below Kg4.out hb); clear Kg4; have Kg4 := n_; clear n_; have n_ := Aside0.mk (blk_below Kg5.out hb); clear Kg5; have Kg5 := n_; clear n_; have n_ := Aside0.mk (blk_below Kg9.out hb); clear Kg9; have Kg9 := n_; clear n_; have n_ := Aside0.mk (blk_below Kg11.out hb); clear Kg11; have Kg11 := n_; clear n_; have n_ := Aside0.mk (blk_below Kg13.out hb); clear Kg13; have Kg13 := n_; clear n_; have Mg14 := Aside0.mk (show w7.heap.size ≤ g14 by rw [hg]; exact below_size (by repeat (first | (with_reducible first | exact HB7.out | apply below_alloc | apply pw_below_drewN | apply below_drew1) | exact HB7.out))); have n_ := Aside0.mk (below_step (by repeat (first | (with_reducible first | exact HB7.out | apply below_alloc | apply pw_below_drewN | apply below_drew1) | exact HB7.out)) hb); clear HB7; have HB7 := n_; clear n_; have h14 := (blk_cell hbox 0).trans rfl; have f14 := blk_frozen hbox 0; clear hg hbox hb))
  clear h14 f14
  obtain ⟨W4, hW4⟩ : ∃ W_, (w14.setCell ⟨g14, 0, none⟩ (.int .i64 0)) = W_ := ⟨_, rfl⟩
  rw [hW4]
  have n_ := Aside0.mk (show W4.heap[g14]? = some (.cells #[.int .i64 0] 3 (0, 0)) by rw [← hW4]; exact blk_put Kg14.out 0 _ rfl)
  clear Kg14
  have Kg14 := n_
  clear n_
  have n_ := Aside0.mk (show W4.heap[g3]? = some _ by rw [← hW4]; exact blk_far (p := ⟨g14, 0, none⟩) Kg3.out (Nat.ne_of_lt Lg3_g14) _)
  clear Kg3
  have Kg3 := n_
  clear n_
  have n_ := Aside0.mk (show W4.heap[g4]? = some _ by rw [← hW4]; exact blk_far (p := ⟨g14, 0, none⟩) Kg4.out (Nat.ne_of_lt Lg4_g14) _)
  clear Kg4
  have Kg4 := n_
  clear n_
  have n_ := Aside0.mk (show W4.heap[g5]? = some _ by rw [← hW4]; exact blk_far (p := ⟨g14, 0, none⟩) Kg5.out (Nat.ne_of_lt Lg5_g14) _)
  clear Kg5
  have Kg5 := n_
  clear n_
  have n_ := Aside0.mk (show W4.heap[g9]? = some _ by rw [← hW4]; exact blk_far (p := ⟨g14, 0, none⟩) Kg9.out (Nat.ne_of_lt Lg9_g14) _)
  clear Kg9
  have Kg9 := n_
  clear n_
  have n_ := Aside0.mk (show W4.heap[g11]? = some _ by rw [← hW4]; exact blk_far (p := ⟨g14, 0, none⟩) Kg11.out (Nat.ne_of_lt Lg11_g14) _)
  clear Kg11
  have Kg11 := n_
  clear n_
  have n_ := Aside0.mk (show W4.heap[g13]? = some _ by rw [← hW4]; exact blk_far (p := ⟨g14, 0, none⟩) Kg13.out (Nat.ne_of_lt Lg13_g14) _)
  clear Kg13
  have Kg13 := n_
  clear n_
  have n_ := Aside0.mk (show Below w.heap.size w W4 by rw [← hW4]; exact below_set (by repeat (first | (with_reducible first | exact HB.out | apply below_alloc | apply pw_below_drewN | apply below_drew1) | exact HB.out)) Gg14.out)
  clear HB
  have HB := n_
  clear n_
  have n_ := Aside0.mk (show Below w7.heap.size w7 W4 by rw [← hW4]; exact below_set (by repeat (first | (with_reducible first | exact HB7.out | apply below_alloc | apply pw_below_drewN | apply below_drew1) | exact HB7.out)) Mg14.out)
  clear HB7
  have HB7 := n_
  clear n_
  clear hW4
  go_upto_region 13 with (first
    | ((with_reducible refine gate_dst (N := 15) rfl ?_); refine box_event ?hg (N := 15) ?hd (cs := #[.nilFunc]) (t := 55) ?hr ?_; (case hd => rfl); (case hg => rfl); (case hr => first | (go_simp; done) | (go_simp; rfl)); intro g15 hg w15 hbox hb; have Kg15 := Aside0.mk hbox; have Gg15 := Aside0.mk (show w.heap.size ≤ g15 by rw [hg]; exact below_size (by repeat (first | (with_reducible first | exact HB.out | apply below_alloc | apply pw_below_drewN | apply below_drew1) | exact HB.out))); have HBn := Aside0.mk (below_step (by repeat (first | (with_reducible first | exact HB.out | apply below_alloc | apply pw_below_drewN | apply below_drew1) | exact HB.out)) hb); clear HB; have HB := HBn; clear HBn; have Lg3_g15 : g3 < g15 := (by rw [hg]; exact blk_lt Kg3.out); have Lg4_g15 : g4 < g15 := (by rw [hg]; exact blk_lt Kg4.out); have Lg5_g15 : g5 < g15 := (by rw [hg]; exact blk_lt Kg5.out); have Lg9_g15 : g9 < g15 := (by rw [hg]; exact blk_lt Kg9.out); have Lg11_g15 : g11 < g15 := (by rw [hg]; exact blk_lt Kg11.out); have Lg13_g15 : g13 < g15 := (by rw [hg]; exact blk_lt Kg13.out); have Lg14_g15 : g14 < g15 := (by rw [hg]; exact blk_lt Kg14.out); have n_ := Aside0.mk (blk_below Kg3.out hb); clear Kg3; have Kg3 := n_; clear n_; have n_ := Aside0.mk (blk_below Kg4.out hb); clear Kg4; have Kg4 := n_; clear n_; have n_ := Aside0.mk (blk_below Kg5.out hb); clear Kg5; have Kg5 := n_; clear n_; have n_ := Aside0.mk (blk_below Kg9.out hb); clear Kg9; have Kg9 := n_; clear n_; have n_ := Aside0.mk (blk_below Kg11.out hb); clear Kg11; have Kg11 := n_; clear n_; have n_ := Aside0.mk (blk_below Kg13.out hb); clear Kg13; have Kg13 := n_; clear n_; have n_ := Aside0.mk (blk_below Kg14.out hb); clear Kg14; have Kg14 := n_; clear n_; have Mg15 := Aside0.mk (show w7.heap.size ≤ g15 by rw [hg]; exact below_size (by repeat (first | (with_reducible first | exact HB7.out | apply below_alloc | apply pw_below_drewN | apply below_drew1) | exact HB7.out))); have n_ := Aside0.mk (below_step (by repeat (first | (with_reducible first | exact HB7.out | apply below_alloc | apply pw_below_drewN | apply below_drew1) | exact HB7.out)) hb); clear HB7; have HB7 := n_; clear n_; have h15 := (blk_cell hbox 0).trans rfl; have f15 := blk_frozen hbox 0; clear hg hbox hb))
  have hst := fun (W : World) (a : Addr) (f : Fn) (x y : Array Value) m => run_store Try.prog W a (.func f x y) m rfl
  go_upto_region 14 with (fail)
  clear hst
  clear h15 f15
  obtain ⟨W5, hW5⟩ : ∃ W_, (w15.setCell ⟨g15, 0, none⟩ ((.func (.func 41) #[] #[.pointer (some ⟨g9, 0, none⟩), .pointer (some ⟨g3, 0, none⟩), .pointer (some ⟨g11, 0, none⟩), .pointer (some ⟨g4, 0, none⟩), .pointer (some ⟨g5, 0, none⟩), .pointer (some ⟨g13, 0, none⟩), .pointer (some ⟨g14, 0, none⟩), .pointer (some ⟨g15, 0, none⟩)]))) = W_ := ⟨_, rfl⟩
  rw [hW5]
  have n_ := Aside0.mk (show W5.heap[g15]? = some (.cells #[(.func (.func 41) #[] #[.pointer (some ⟨g9, 0, none⟩), .pointer (some ⟨g3, 0, none⟩), .pointer (some ⟨g11, 0, none⟩), .pointer (some ⟨g4, 0, none⟩), .pointer (some ⟨g5, 0, none⟩), .pointer (some ⟨g13, 0, none⟩), .pointer (some ⟨g14, 0, none⟩), .pointer (some ⟨g15, 0, none⟩)])] 55 (0, 0)) by rw [← hW5]; exact blk_put Kg15.out 0 _ rfl)
  clear Kg15
  have Kg15 := n_
  clear n_
  have n_ := Aside0.mk (show W5.heap[g3]? = some _ by rw [← hW5]; exact blk_far (p := ⟨g15, 0, none⟩) Kg3.out (Nat.ne_of_lt Lg3_g15) _)
  clear Kg3
  have Kg3 := n_
  clear n_
  have n_ := Aside0.mk (show W5.heap[g4]? = some _ by rw [← hW5]; exact blk_far (p := ⟨g15, 0, none⟩) Kg4.out (Nat.ne_of_lt Lg4_g15) _)
  clear Kg4
  have Kg4 := n_
  clear n_
  have n_ := Aside0.mk (show W5.heap[g5]? = some _ by rw [← hW5]; exact blk_far (p := ⟨g15, 0, none⟩) Kg5.out (Nat.ne_of_lt Lg5_g15) _)
  clear Kg5
  have Kg5 := n_
  clear n_
  have n_ := Aside0.mk (show W5.heap[g9]? = some _ by rw [← hW5]; exact blk_far (p := ⟨g15, 0, none⟩) Kg9.out (Nat.ne_of_lt Lg9_g15) _)
  clear Kg9
  have Kg9 := n_
  clear n_
  have n_ := Aside0.mk (show W5.heap[g11]? = some _ by rw [← hW5]; exact blk_far (p := ⟨g15, 0, none⟩) Kg11.out (Nat.ne_of_lt Lg11_g15) _)
  clear Kg11
  have Kg11 := n_
  clear n_
  have n_ := Aside0.mk (show W5.heap[g13]? = some _ by rw [← hW5]; exact blk_far (p := ⟨g15, 0, none⟩) Kg13.out (Nat.ne_of_lt Lg13_g15) _)
  clear Kg13
  have Kg13 := n_
  clear n_
  have n_ := Aside0.mk (show W5.heap[g14]? = some _ by rw [← hW5]; exact blk_far (p := ⟨g15, 0, none⟩) Kg14.out (Nat.ne_of_lt Lg14_g15) _)
  clear Kg14
  have Kg14 := n_
  clear n_
  have n_ := Aside0.mk (show Below w.heap.size w W5 by rw [← hW5]; exact below_set (by repeat (first | (with_reducible first | exact HB.out | apply below_alloc | apply pw_below_drewN | apply below_drew1) | exact HB.out)) Gg15.out)
  clear HB
  have HB := n_
  clear n_
  have n_ := Aside0.mk (show Below w7.heap.size w7 W5 by rw [← hW5]; exact below_set (by repeat (first | (with_reducible first | exact HB7.out | apply below_alloc | apply pw_below_drewN | apply below_drew1) | exact HB7.out)) Mg15.out)
  clear HB7
  have HB7 := n_
  clear n_
  clear hW5
  have hTwo : ∀ k_, Two g13 g14 k_ → w.heap.size ≤ k_ := by rintro k_ (rfl | rfl); exact Gg13.out; exact Gg14.out
  have hTwo7 : ∀ k_, Two g13 g14 k_ → w7.heap.size ≤ k_ := by rintro k_ (rfl | rfl); exact Mg13.out; exact Mg14.out
  have hno : ∀ x, x < g13 → ¬ Two g13 g14 x := by intro x hx h; rcases h with h | h; omega; have := Lg13_g14; omega
  have hEN : Safe g13 g14 (Fix l0 l1 a2 sq A0 c0 A1 c1 A2 c2 g9 g3 g11 g4 g5 g13 g14 g15) W5 := by
    have z := Kd.C_kept_came (Kd.heap_int .i64) HR0.out HB.out hTwo
    have s := Kd.C_kept_came (Kd.heap_int .i64) HR1.out HB.out hTwo
    have q := Kd.C_kept_came (Kd.heap_slice 3 (Kd.heap_int .i64)) HS7.out.2.2 HB7.out hTwo7
    intro W_ hW_
    exact ⟨(blk_cell (blk_kept Kg9.out hW_ (hno _ Lg9_g13)) 0).trans rfl, (blk_cell (blk_kept Kg3.out hW_ (hno _ Lg3_g13)) 0).trans rfl, (blk_cell (blk_kept Kg11.out hW_ (hno _ Lg11_g13)) 0).trans rfl, (blk_cell (blk_kept Kg4.out hW_ (hno _ Lg4_g13)) 0).trans rfl, (blk_cell (blk_kept Kg5.out hW_ (hno _ Lg5_g13)) 0).trans rfl, (blk_cell (blk_kept Kg15.out hW_ (fun h => by rcases h with h | h; have := Lg13_g15; omega; have := Lg14_g15; omega)) 0).trans rfl, z W_ hW_, s W_ hW_, q W_ hW_⟩
  have hVR : Var w.heap.size g13 g14 [] 0 W5 := ⟨Nat.ne_of_lt Lg13_g14, HB.out.size, Kg14.out, _, Kg13.out, .inl ⟨rfl, rfl⟩⟩
  have hcall := asg_calls l0 l1 a2 sq A0 c0 A1 c1 A2 c2 w.heap.size g9 g3 g11 g4 g5 g13 g14 g15 HC0.out HC1.out HS7.out.2.1 (by have := E0.out; omega) (by have := E2.out; omega) k [] [] 0 t W5 none 0 HT.out hEN hVR Kd.C_kept_nil (Nat.le_refl _) (Nat.zero_le _) (fun x hx => by cases hx)
  have HCALL := Aside0.mk hcall
  have c15 := (blk_cell Kg15.out 0).trans rfl
  clear hEN hVR hcall hno hTwo7
  go_upto_region 15 with (go_at_call 41; refine HCALL.out.mono ?_; rintro e_ w8 ⟨v8, rfl, ⟨hZ8, hK8⟩, hV8⟩; have HB8 := Aside0.mk (show Below w.heap.size w w8 from ⟨hZ8.os.trans HB.out.os, hZ8.tape.trans HB.out.tape, hZ8.output.trans HB.out.output, Nat.le_trans HB.out.size hK8.1, fun i_ hi => (hK8.2 i_ (Nat.lt_of_lt_of_le hi HB.out.size) (fun h => by have := hTwo i_ h; omega)).trans (HB.out.block i_ hi)⟩); have HV8 := Aside0.mk hV8; clear hZ8 hK8 hV8 c15)
  clear hTwo
  obtain ⟨bv, hbv, hcase⟩ := HV8.out.hbb
  have HRB := Aside0.mk (show Kd.R (Kd.int .i64) 3 w8 w.heap.size (fun _ => True) bv t.1 by
    rcases hcase with ⟨hb0, rfl⟩ | ⟨hb0, hRb⟩
    · rw [hb0]; exact Kd.R_nil _ _ _ _ _
    · exact Kd.R_mono hRb (fun _ _ => trivial))
  obtain ⟨Ab, cb, rfl⟩ := Kd.R_slice HRB.out
  have hHeldA := (blk_cell hbv 0).trans (show _ = some (Value.slice Ab t.1.length cb) from rfl)
  have hHeldB := (blk_cell HV8.out.hbe 0).trans (show _ = some (Value.int .i64 t.2) from rfl)
  clear hcase hbv
  refine start_ (n := 5) (S := fun w' => w'.cell? ⟨g13, 0, none⟩ = some (.slice Ab t.1.length cb) ∧ w'.cell? ⟨g14, 0, none⟩ = some (.int .i64 t.2)) (ds := []) #[false, false, false, false, false] (by kernel_rfl) rfl rfl ⟨hHeldA, hHeldB⟩ (fun hHeld => ?_)
  refine with_tabW Shortest.tab15 Shortest.bits15 (fun HT_ HW_ => ?_)
  refine take_ (i := 0) (N := some 43) (v := ?_) (a' := ?_) #[true, false, false, false, false] rfl rfl (take_ofW HT_.out HW_.out (by kernel_rfl)) (fun _ _ _ h => h) (Or.inl ⟨by rfl, ?_⟩) hHeld ?_ ?_
  rotate_left
  · rintro w' ⟨s0, s1⟩
    go_simp
    with_reducible rfl
  rotate_left
  · simp only [Act.put, List.setIfInBounds_toArray, List.set_cons_zero, List.set_cons_succ, i64_w, i32_w]
    rfl
  refine pure_ (i := 2) (N := some 6) (v := ?_) (a' := ?_) #[true, false, true, false, false] rfl rfl (any_of HT_.out (by kernel_rfl)) (fun _ _ _ h => h) (Or.inl ⟨by rfl, ?_⟩) ?_ ?_
  rotate_left
  · intro w'
    go_simp
    with_reducible rfl
  rotate_left
  · simp only [Act.put, List.setIfInBounds_toArray, List.set_cons_zero, List.set_cons_succ, i64_w, i32_w]
    rfl
  refine take_ (i := 1) (N := some 44) (v := ?_) (a' := ?_) #[true, true, true, false, false] rfl rfl (take_ofW HT_.out HW_.out (by kernel_rfl)) (fun _ _ _ h => h) (Or.inl ⟨by rfl, ?_⟩) hHeld ?_ ?_
  rotate_left
  · rintro w' ⟨s0, s1⟩
    go_simp
    with_reducible rfl
  rotate_left
  · simp only [Act.put, List.setIfInBounds_toArray, List.set_cons_zero, List.set_cons_succ, i64_w, i32_w]
    rfl
  refine pure_ (i := 3) (N := some 7) (v := ?_) (a' := ?_) #[true, true, true, true, false] rfl rfl (any_of HT_.out (by kernel_rfl)) (fun _ _ _ h => h) (Or.inl ⟨by rfl, ?_⟩) ?_ ?_
  rotate_left
  · intro w'
    go_simp
    with_reducible rfl
  rotate_left
  · simp only [Act.put, List.setIfInBounds_toArray, List.set_cons_zero, List.set_cons_succ, i64_w, i32_w]
    rfl
  refine pure_ (i := 4) (N := some 8) (v := ?_) (a' := ?_) #[true, true, true, true, true] rfl rfl (any_of HT_.out (by kernel_rfl)) (fun _ _ _ h => h) (Or.inl ⟨by rfl, ?_⟩) ?_ ?_
  rotate_left
  · intro w'
    go_simp
    with_reducible rfl
  rotate_left
  · simp only [Act.put, List.setIfInBounds_toArray, List.set_cons_zero, List.set_cons_succ, i64_w, i32_w]
    rfl
  refine done_ (done_of HT_.out (by kernel_rfl)) ?_
  go_wp2
  go_ret3
  exact ⟨_, rfl, Kd.R_drew HRB.out, below_drew1 HB8.out⟩

end Go.Proofs.Ytaodpgblleiiaaa.P
