-- out of a program (drive.sh), by way of the translation's print
import Derived.Test.YtjmbkbnbepmhjaaPx0
import Derived.Test.YtjmbkbnbepmhjaaPx1
import Derived.Test.YtjmbkbnbepmhjaaPx4
namespace Go.Proofs.Ytjmbkbnbepmhjaa.P
open Go.RowKit Go.Proofs.YtjmbkbnbepmhjaaW.PrintWords Go.Proofs.YtjmbkbnbepmhjaaW.PrintLast Go.Proofs.YtjmbkbnbepmhjaaW.PrintMore
attribute [local go_sem] max2_int min2_int max_two min_two max_three min_three max_four min_four   -- for this text's walks alone
set_option linter.unusedVariables false
set_option linter.unusedSimpArgs false

attribute [local go_sem high] eqA50
/-! ### compare_check: function 40 -/
def compare_check.l0 : Nat → List (S63) → Int → Int → Option (Int)
 | 0, _, _, _ => none
 | k + 1, x8, x9, x10 => if x10 < x9 then (if 0 ≤ x10 then (if x10 < (x8.length : Int) then ((compare_Cost.f k ((rd_T63 x8 x10).f0)).bind fun t153 => (if t153 < 0 then (some 1) else (if ((rd_T63 x8 x10).f0) = 1 then (if (!((((rd_T63 x8 x10).f1.f0).toList) == ([] : List UInt8)) || (!(((rd_T63 x8 x10).f1.f1) == 0) || (((rd_T63 x8 x10).f1.f2) || (((rd_T63 x8 x10).f1.f3) || (((rd_T63 x8 x10).f1.f4)))))) = true then (some 1) else (compare_check.l0 k x8 x9 (wrap64 (x10 + 1)))) else (if ((rd_T63 x8 x10).f0) = 5 then (if (!((((rd_T63 x8 x10).f1.f0).toList) == ([] : List UInt8)) || (!(((rd_T63 x8 x10).f1.f1) == 0) || (((rd_T63 x8 x10).f1.f2) || (((rd_T63 x8 x10).f1.f3) || (((rd_T63 x8 x10).f1.f4)))))) = true then (some 1) else (compare_check.l0 k x8 x9 (wrap64 (x10 + 1)))) else (compare_check.l0 k x8 x9 (wrap64 (x10 + 1))))))) else (none)) else (none)) else (some 0)
def compare_check.f (k : Nat) (l0 : List (S63)) : Option (Int) := if (l0.length : Int) > 60 then (some 6) else (compare_check.l0 k l0 (l0.length : Int) 0)
theorem compare_check.mono_l : ∀ k, (∀ y0 y1 y2, LeO (compare_check.l0 k y0 y1 y2) (compare_check.l0 (k + 1) y0 y1 y2))
 | 0 => fun _ _ _ r h => by simp [compare_check.l0] at h
 | k + 1 => by
  have ih0 := compare_check.mono_l k
  ·intro y0 y1 y2
   unfold compare_check.l0
   repeat' first
   | (with_reducible exact ih0 _ _ _)
   | (with_reducible exact compare_Cost.mono _ _)
   | (with_reducible exact LeO.refl _)
   | (with_reducible exact LeO.none _)
   | (with_reducible refine LeO.ite ?_ ?_)
   | (with_reducible refine LeO.bind ?_ (fun _ => ?_))
   | exact ih0 _ _ _
   | exact compare_Cost.mono _ _
   | exact LeO.none _
   | refine LeO.ite ?_ ?_
   | refine LeO.bind ?_ (fun _ => ?_)
theorem compare_check.mono : ∀ a0 k, LeO (compare_check.f k a0) (compare_check.f (k + 1) a0) := by
 intro a0 k
 have ih0 := compare_check.mono_l k
 unfold compare_check.f
 repeat' first
   | (with_reducible exact ih0 _ _ _)
   | (with_reducible exact compare_Cost.mono _ _)
   | (with_reducible exact LeO.refl _)
   | (with_reducible exact LeO.none _)
   | (with_reducible refine LeO.ite ?_ ?_)
   | (with_reducible refine LeO.bind ?_ (fun _ => ?_))
   | exact ih0 _ _ _
   | exact compare_Cost.mono _ _
   | exact LeO.none _
   | refine LeO.ite ?_ ?_
   | refine LeO.bind ?_ (fun _ => ?_)
set_option maxHeartbeats 8000000 in
set_option maxRecDepth 100000 in
theorem compare_check.calls (k : Nat) (A0 : Option Addr) (c0 : Nat) (l0 : List (S63)) (r : Int) (w : World) (hr0 : Kd.C k63 w A0 l0.length l0) (hc0 : l0.length ≤ c0) (h : compare_check.f k l0 = some r) :
  Calls Try.prog 40 #[.slice A0 l0.length c0] w fun e w' => e = .returned (.int .i64 r) ∧ Below w.heap.size w w' := by
 have hu63 := Try.underlying63
 have hu50 := Try.underlying50
 have HR0 := aS hr0
 have HC0 := aS hc0
 clear hr0 hc0
 have HB := aS (Below.refl w.heap.size w)
 have H : (if (l0.length : Int) > 60 then (some 6) else (compare_check.l0 k l0 (l0.length : Int) 0)) = some r := h
 clear h
 by_cases c2 : (l0.length : Int) > 60
 ·rw [if_pos c2] at H
  have c2b0 : decide (60 < (l0.length : Int)) = true := decide_eq_true c2
  have c2b1 : decide (60 < l0.length) = true := decide_eq_true (by omega)
  clear c2
  obtain rfl := Option.some.inj H
  go_enter Try.func40, Try.ntmps40
  go_wp2
  go_ret
  exact ⟨by first | rfl | (simp [errW_none, errW_some] <;> rfl) | (simp [*, errW_none, errW_some] <;> rfl), by first | exact bel HB.out | exact HB.out⟩
 rw [if_neg c2] at H
 have c2b0 : decide (60 < (l0.length : Int)) = false := decide_eq_false c2
 have c2b1 : decide (60 < l0.length) = false := decide_eq_false (by omega)
 clear c2
 have H' := aS H
 clear H
 go_enter Try.func40, Try.ntmps40
 go_wp2
 go_loopg [10] k (fun kq v10 w' => ∃ (x10_1 : Int), v10 = .int .i64 x10_1 ∧ Aside0 (compare_check.l0 kq l0 (l0.length : Int) x10_1 = some r) ∧ Aside0 (kq ≤ k) ∧ Aside0 (Below w.heap.size w w'))
 case atStart => exact ⟨(0), (by first | rfl | (simp; done) | (simp [*]; done)), H', ⟨Nat.le_refl _⟩, ⟨by first | exact bel HB.out | exact HB.out⟩⟩
 case round =>
  clear H'
  try clear c2
  try clear c2b0
  try clear c2b1
  try clear p2
  obtain ⟨x10_1, rfl, HA, HK1, HB⟩ := hrel
  cases gk with
  | zero => exact absurd HA.out (by simp [compare_check.l0])
  | succ k1 =>
   have H := HA.out
   clear HA
   simp only [compare_check.l0] at H
   by_cases c3 : x10_1 < (l0.length : Int)
   rotate_left
   ·rw [if_neg c3] at H
    have c3b0 : decide (x10_1 < (l0.length : Int)) = false := decide_eq_false c3
    clear c3
    obtain rfl := Option.some.inj H
    go_wp2
    go_ret
    exact ⟨by first | rfl | (simp [errW_none, errW_some] <;> rfl) | (simp [*, errW_none, errW_some] <;> rfl), by first | exact bel HB.out | exact HB.out⟩

   rw [if_pos c3] at H
   have c3b0 : decide (x10_1 < (l0.length : Int)) = true := decide_eq_true c3
   clear c3
   by_cases c4 : 0 ≤ x10_1
   rotate_left
   ·rw [if_neg c4] at H
    exact absurd H (by simp)
   rw [if_pos c4] at H
   have c4b0 : decide (0 ≤ x10_1) = true := decide_eq_true c4
   clear c4
   by_cases c5 : x10_1 < (l0.length : Int)
   rotate_left
   ·rw [if_neg c5] at H
    exact absurd H (by simp)
   rw [if_pos c5] at H
   have c5b0 : decide (x10_1 < (l0.length : Int)) = true := decide_eq_true c5
   clear c5
   replace H := Option.bind_eq_some_iff.mp H
   obtain ⟨t153, A60, H⟩ := H
   replace H : (if t153 < 0 then (some 1) else (if ((rd_T63 l0 x10_1).f0) = 1 then (if (!((((rd_T63 l0 x10_1).f1.f0).toList) == ([] : List UInt8)) || (!(((rd_T63 l0 x10_1).f1.f1) == 0) || (((rd_T63 l0 x10_1).f1.f2) || (((rd_T63 l0 x10_1).f1.f3) || (((rd_T63 l0 x10_1).f1.f4)))))) = true then (some 1) else (compare_check.l0 k1 l0 (l0.length : Int) (wrap64 (x10_1 + 1)))) else (if ((rd_T63 l0 x10_1).f0) = 5 then (if (!((((rd_T63 l0 x10_1).f1.f0).toList) == ([] : List UInt8)) || (!(((rd_T63 l0 x10_1).f1.f1) == 0) || (((rd_T63 l0 x10_1).f1.f2) || (((rd_T63 l0 x10_1).f1.f3) || (((rd_T63 l0 x10_1).f1.f4)))))) = true then (some 1) else (compare_check.l0 k1 l0 (l0.length : Int) (wrap64 (x10_1 + 1)))) else (compare_check.l0 k1 l0 (l0.length : Int) (wrap64 (x10_1 + 1)))))) = some r := H
   have A6 := aS A60
   clear A60
   by_cases c7 : t153 < 0
   ·rw [if_pos c7] at H
    have c7b0 : decide (t153 < 0) = true := decide_eq_true c7
    clear c7
    obtain rfl := Option.some.inj H
    have p151 : 0 ≤ (x10_1 : Int) := of_decide_eq_true (by first | (with_reducible assumption) | assumption)
    have q151 : x10_1 < (l0.length : Int) := of_decide_eq_true (by first | (with_reducible assumption) | assumption)
    obtain ⟨ad151, e151, hx151_0, hx151_1, hx151_2, hx151_3, hx151_4, hx151_5⟩ := at_T63 HR0.out x10_1 p151 q151
    cases e151
    replace hx151_0 := hup HB.out hx151_0
    replace hx151_1 := hup HB.out hx151_1
    replace hx151_2 := hup HB.out hx151_2
    replace hx151_3 := hup HB.out hx151_3
    replace hx151_4 := hup HB.out hx151_4
    replace hx151_5 := hup HB.out hx151_5
    replace p151 := eq_true p151
    replace q151 := eq_true q151
    go_wp2_with (first | ((with_reducible refine gate_dst (N := 4) rfl ?_); refine box_event ?hg (N := 4) ?hd (cs := #[.int .i64 0, .string (⟨#[]⟩ : ByteArray), .int .i64 0, .bool false, .bool false, .bool false]) (t := 63) ?hr ?_; (case hd => rfl); (case hg => rfl); (case hr => first | (go_simp; done) | (go_simp; rfl)); intro gb152 hg w8 hbox hb; have n0_ := aS (below_step (by first | exact bel HB.out | exact HB.out) hb); have n1_ := aS (hbox); have n2_ := aS ((by rw [hg]; exact (below_size (by first | exact bel HB.out | exact HB.out)) : w.heap.size ≤ gb152)); have n3_ := aS ((by rw [hg]; exact (below_size (by first | exact bel HB.out | exact HB.out)) : w.heap.size ≤ gb152)); clear HB; have HB := n0_; have BK152 := n1_; have GW152 := n2_; have GE152 := n3_; clear n0_ n1_ n2_ n3_; clear hb hbox hg; have hcz9_0 : w8.cell? ⟨gb152, 0, none⟩ = some (.int .i64 0) := (blk_cell BK152.out 0).trans rfl; have hcz9_1 : w8.cell? ⟨gb152, 1, none⟩ = some (.string (⟨#[]⟩ : ByteArray)) := (blk_cell BK152.out 1).trans rfl; have hcz9_2 : w8.cell? ⟨gb152, 2, none⟩ = some (.int .i64 0) := (blk_cell BK152.out 2).trans rfl; have hcz9_3 : w8.cell? ⟨gb152, 3, none⟩ = some (.bool false) := (blk_cell BK152.out 3).trans rfl; have hcz9_4 : w8.cell? ⟨gb152, 4, none⟩ = some (.bool false) := (blk_cell BK152.out 4).trans rfl; have hcz9_5 : w8.cell? ⟨gb152, 5, none⟩ = some (.bool false) := (blk_cell BK152.out 5).trans rfl; have hfz9_0 := blk_frozen BK152.out 0; have hfz9_1 := blk_frozen BK152.out 1; have hfz9_2 := blk_frozen BK152.out 2; have hfz9_3 := blk_frozen BK152.out 3; have hfz9_4 := blk_frozen BK152.out 4; have hfz9_5 := blk_frozen BK152.out 5) | ((with_reducible refine gate_callee (f := 30) rfl ?_); refine goesL_ (some 16) rfl rfl Try.func30 (by kernel_rfl) rfl #[.int .i64 ((rd_T63 l0 x10_1).f0)] rfl (by (try simp only [List.map_toArray, List.map_cons, List.map_nil]); first | done | rfl | (simp only [List.length_drop, List.length_take]; rfl)) ?_; (with_reducible refine (compare_Cost.calls k1 ((rd_T63 l0 x10_1).f0) t153 _ A6.out).mono ?_); rintro e w' ⟨rfl, ⟨nd, rfl⟩⟩; refine ⟨_, rfl, ?_⟩))
    go_ret
    exact ⟨by first | rfl | (simp [errW_none, errW_some] <;> rfl) | (simp [*, errW_none, errW_some] <;> rfl), by repeat (first | (with_reducible first | exact HB.out | apply bA | apply bN | apply bD | refine below_set ?_ GE152.out) | exact HB.out)⟩
   rw [if_neg c7] at H
   have c7b0 : decide (t153 < 0) = false := decide_eq_false c7
   clear c7
   by_cases c10 : ((rd_T63 l0 x10_1).f0) = 1
   ·rw [if_pos c10] at H
    have c10b0 : (((rd_T63 l0 x10_1).f0) == 1) = true := beq_iff_eq.mpr c10
    have c10b1 : (((rd_T63 l0 x10_1).f0) != 1) = false := bne_eq_false_iff_eq.mpr c10
    clear c10
    by_cases c11 : (!((((rd_T63 l0 x10_1).f1.f0).toList) == ([] : List UInt8)) || (!(((rd_T63 l0 x10_1).f1.f1) == 0) || (((rd_T63 l0 x10_1).f1.f2) || (((rd_T63 l0 x10_1).f1.f3) || (((rd_T63 l0 x10_1).f1.f4)))))) = true
    ·rw [if_pos c11] at H
     have c11b0 : (!((((rd_T63 l0 x10_1).f1.f0).toList) == ([] : List UInt8)) || (!(((rd_T63 l0 x10_1).f1.f1) == 0) || (((rd_T63 l0 x10_1).f1.f2) || (((rd_T63 l0 x10_1).f1.f3) || (((rd_T63 l0 x10_1).f1.f4)))))) = true := c11
     have he_ : ((((rd_T63 l0 x10_1).f1.f0).toList) == ([] : List UInt8)) = List.isEmpty (((rd_T63 l0 x10_1).f1.f0).toList) := by cases (((rd_T63 l0 x10_1).f1.f0).toList) <;> rfl
     rw [he_] at c11b0
     clear he_
     clear c11
     obtain rfl := Option.some.inj H
     have p151 : 0 ≤ (x10_1 : Int) := of_decide_eq_true (by first | (with_reducible assumption) | assumption)
     have q151 : x10_1 < (l0.length : Int) := of_decide_eq_true (by first | (with_reducible assumption) | assumption)
     obtain ⟨ad151, e151, hx151_0, hx151_1, hx151_2, hx151_3, hx151_4, hx151_5⟩ := at_T63 HR0.out x10_1 p151 q151
     cases e151
     replace hx151_0 := hup HB.out hx151_0
     replace hx151_1 := hup HB.out hx151_1
     replace hx151_2 := hup HB.out hx151_2
     replace hx151_3 := hup HB.out hx151_3
     replace hx151_4 := hup HB.out hx151_4
     replace hx151_5 := hup HB.out hx151_5
     replace p151 := eq_true p151
     replace q151 := eq_true q151
     go_wp2_with (first | ((with_reducible refine gate_dst (N := 4) rfl ?_); refine box_event ?hg (N := 4) ?hd (cs := #[.int .i64 0, .string (⟨#[]⟩ : ByteArray), .int .i64 0, .bool false, .bool false, .bool false]) (t := 63) ?hr ?_; (case hd => rfl); (case hg => rfl); (case hr => first | (go_simp; done) | (go_simp; rfl)); intro gb152 hg w12 hbox hb; have n0_ := aS (below_step (by first | exact bel HB.out | exact HB.out) hb); have n1_ := aS (hbox); have n2_ := aS ((by rw [hg]; exact (below_size (by first | exact bel HB.out | exact HB.out)) : w.heap.size ≤ gb152)); have n3_ := aS ((by rw [hg]; exact (below_size (by first | exact bel HB.out | exact HB.out)) : w.heap.size ≤ gb152)); clear HB; have HB := n0_; have BK152 := n1_; have GW152 := n2_; have GE152 := n3_; clear n0_ n1_ n2_ n3_; clear hb hbox hg; have hcz13_0 : w12.cell? ⟨gb152, 0, none⟩ = some (.int .i64 0) := (blk_cell BK152.out 0).trans rfl; have hcz13_1 : w12.cell? ⟨gb152, 1, none⟩ = some (.string (⟨#[]⟩ : ByteArray)) := (blk_cell BK152.out 1).trans rfl; have hcz13_2 : w12.cell? ⟨gb152, 2, none⟩ = some (.int .i64 0) := (blk_cell BK152.out 2).trans rfl; have hcz13_3 : w12.cell? ⟨gb152, 3, none⟩ = some (.bool false) := (blk_cell BK152.out 3).trans rfl; have hcz13_4 : w12.cell? ⟨gb152, 4, none⟩ = some (.bool false) := (blk_cell BK152.out 4).trans rfl; have hcz13_5 : w12.cell? ⟨gb152, 5, none⟩ = some (.bool false) := (blk_cell BK152.out 5).trans rfl; have hfz13_0 := blk_frozen BK152.out 0; have hfz13_1 := blk_frozen BK152.out 1; have hfz13_2 := blk_frozen BK152.out 2; have hfz13_3 := blk_frozen BK152.out 3; have hfz13_4 := blk_frozen BK152.out 4; have hfz13_5 := blk_frozen BK152.out 5) | ((with_reducible refine gate_callee (f := 30) rfl ?_); refine goesL_ (some 16) rfl rfl Try.func30 (by kernel_rfl) rfl #[.int .i64 ((rd_T63 l0 x10_1).f0)] rfl (by (try simp only [List.map_toArray, List.map_cons, List.map_nil]); first | done | rfl | (simp only [List.length_drop, List.length_take]; rfl)) ?_; (with_reducible refine (compare_Cost.calls k1 ((rd_T63 l0 x10_1).f0) t153 _ A6.out).mono ?_); rintro e w' ⟨rfl, ⟨nd, rfl⟩⟩; refine ⟨_, rfl, ?_⟩))
     go_ret
     exact ⟨by first | rfl | (simp [errW_none, errW_some] <;> rfl) | (simp [*, errW_none, errW_some] <;> rfl), by repeat (first | (with_reducible first | exact HB.out | apply bA | apply bN | apply bD | refine below_set ?_ GE152.out) | exact HB.out)⟩
    rw [if_neg c11] at H
    have c11b0 : (!((((rd_T63 l0 x10_1).f1.f0).toList) == ([] : List UInt8)) || (!(((rd_T63 l0 x10_1).f1.f1) == 0) || (((rd_T63 l0 x10_1).f1.f2) || (((rd_T63 l0 x10_1).f1.f3) || (((rd_T63 l0 x10_1).f1.f4)))))) = false := by simpa using c11
    have he_ : ((((rd_T63 l0 x10_1).f1.f0).toList) == ([] : List UInt8)) = List.isEmpty (((rd_T63 l0 x10_1).f1.f0).toList) := by cases (((rd_T63 l0 x10_1).f1.f0).toList) <;> rfl
    rw [he_] at c11b0
    clear he_
    clear c11
    have H' := aS H
    clear H
    have p151 : 0 ≤ (x10_1 : Int) := of_decide_eq_true (by first | (with_reducible assumption) | assumption)
    have q151 : x10_1 < (l0.length : Int) := of_decide_eq_true (by first | (with_reducible assumption) | assumption)
    obtain ⟨ad151, e151, hx151_0, hx151_1, hx151_2, hx151_3, hx151_4, hx151_5⟩ := at_T63 HR0.out x10_1 p151 q151
    cases e151
    replace hx151_0 := hup HB.out hx151_0
    replace hx151_1 := hup HB.out hx151_1
    replace hx151_2 := hup HB.out hx151_2
    replace hx151_3 := hup HB.out hx151_3
    replace hx151_4 := hup HB.out hx151_4
    replace hx151_5 := hup HB.out hx151_5
    replace p151 := eq_true p151
    replace q151 := eq_true q151
    go_wp2_with (first | ((with_reducible refine gate_dst (N := 4) rfl ?_); refine box_event ?hg (N := 4) ?hd (cs := #[.int .i64 0, .string (⟨#[]⟩ : ByteArray), .int .i64 0, .bool false, .bool false, .bool false]) (t := 63) ?hr ?_; (case hd => rfl); (case hg => rfl); (case hr => first | (go_simp; done) | (go_simp; rfl)); intro gb152 hg w14 hbox hb; have n0_ := aS (below_step (by first | exact bel HB.out | exact HB.out) hb); have n1_ := aS (hbox); have n2_ := aS ((by rw [hg]; exact (below_size (by first | exact bel HB.out | exact HB.out)) : w.heap.size ≤ gb152)); have n3_ := aS ((by rw [hg]; exact (below_size (by first | exact bel HB.out | exact HB.out)) : w.heap.size ≤ gb152)); clear HB; have HB := n0_; have BK152 := n1_; have GW152 := n2_; have GE152 := n3_; clear n0_ n1_ n2_ n3_; clear hb hbox hg; have hcz15_0 : w14.cell? ⟨gb152, 0, none⟩ = some (.int .i64 0) := (blk_cell BK152.out 0).trans rfl; have hcz15_1 : w14.cell? ⟨gb152, 1, none⟩ = some (.string (⟨#[]⟩ : ByteArray)) := (blk_cell BK152.out 1).trans rfl; have hcz15_2 : w14.cell? ⟨gb152, 2, none⟩ = some (.int .i64 0) := (blk_cell BK152.out 2).trans rfl; have hcz15_3 : w14.cell? ⟨gb152, 3, none⟩ = some (.bool false) := (blk_cell BK152.out 3).trans rfl; have hcz15_4 : w14.cell? ⟨gb152, 4, none⟩ = some (.bool false) := (blk_cell BK152.out 4).trans rfl; have hcz15_5 : w14.cell? ⟨gb152, 5, none⟩ = some (.bool false) := (blk_cell BK152.out 5).trans rfl; have hfz15_0 := blk_frozen BK152.out 0; have hfz15_1 := blk_frozen BK152.out 1; have hfz15_2 := blk_frozen BK152.out 2; have hfz15_3 := blk_frozen BK152.out 3; have hfz15_4 := blk_frozen BK152.out 4; have hfz15_5 := blk_frozen BK152.out 5) | ((with_reducible refine gate_callee (f := 30) rfl ?_); refine goesL_ (some 16) rfl rfl Try.func30 (by kernel_rfl) rfl #[.int .i64 ((rd_T63 l0 x10_1).f0)] rfl (by (try simp only [List.map_toArray, List.map_cons, List.map_nil]); first | done | rfl | (simp only [List.length_drop, List.length_take]; rfl)) ?_; (with_reducible refine (compare_Cost.calls k1 ((rd_T63 l0 x10_1).f0) t153 _ A6.out).mono ?_); rintro e w' ⟨rfl, ⟨nd, rfl⟩⟩; refine ⟨_, rfl, ?_⟩))
    go_roundg k1
    case measure => have := HK1.out; omega
    case rel => exact ⟨(wrap64 (x10_1 + 1)), (by first | rfl | (simp; done) | (simp [*]; done)), H', ⟨by have := HK1.out; omega⟩, ⟨by repeat (first | (with_reducible first | exact HB.out | apply bA | apply bN | apply bD | refine below_set ?_ GE152.out) | exact HB.out)⟩⟩
   rw [if_neg c10] at H
   have c10b0 : (((rd_T63 l0 x10_1).f0) == 1) = false := beq_eq_false_iff_ne.mpr c10
   have c10b1 : (((rd_T63 l0 x10_1).f0) != 1) = true := bne_iff_ne.mpr c10
   by_cases c16 : ((rd_T63 l0 x10_1).f0) = 5
   rotate_left
   ·rw [if_neg c16] at H
    have c16b0 : (((rd_T63 l0 x10_1).f0) == 5) = false := beq_eq_false_iff_ne.mpr c16
    have c16b1 : (((rd_T63 l0 x10_1).f0) != 5) = true := bne_iff_ne.mpr c16
    have H' := aS H
    clear H
    have p151 : 0 ≤ (x10_1 : Int) := of_decide_eq_true (by first | (with_reducible assumption) | assumption)
    have q151 : x10_1 < (l0.length : Int) := of_decide_eq_true (by first | (with_reducible assumption) | assumption)
    obtain ⟨ad151, e151, hx151_0, hx151_1, hx151_2, hx151_3, hx151_4, hx151_5⟩ := at_T63 HR0.out x10_1 p151 q151
    cases e151
    replace hx151_0 := hup HB.out hx151_0
    replace hx151_1 := hup HB.out hx151_1
    replace hx151_2 := hup HB.out hx151_2
    replace hx151_3 := hup HB.out hx151_3
    replace hx151_4 := hup HB.out hx151_4
    replace hx151_5 := hup HB.out hx151_5
    replace p151 := eq_true p151
    replace q151 := eq_true q151
    go_wp2_with (first | ((with_reducible refine gate_dst (N := 4) rfl ?_); refine box_event ?hg (N := 4) ?hd (cs := #[.int .i64 0, .string (⟨#[]⟩ : ByteArray), .int .i64 0, .bool false, .bool false, .bool false]) (t := 63) ?hr ?_; (case hd => rfl); (case hg => rfl); (case hr => first | (go_simp; done) | (go_simp; rfl)); intro gb152 hg w22 hbox hb; have n0_ := aS (below_step (by first | exact bel HB.out | exact HB.out) hb); have n1_ := aS (hbox); have n2_ := aS ((by rw [hg]; exact (below_size (by first | exact bel HB.out | exact HB.out)) : w.heap.size ≤ gb152)); have n3_ := aS ((by rw [hg]; exact (below_size (by first | exact bel HB.out | exact HB.out)) : w.heap.size ≤ gb152)); clear HB; have HB := n0_; have BK152 := n1_; have GW152 := n2_; have GE152 := n3_; clear n0_ n1_ n2_ n3_; clear hb hbox hg; have hcz23_0 : w22.cell? ⟨gb152, 0, none⟩ = some (.int .i64 0) := (blk_cell BK152.out 0).trans rfl; have hcz23_1 : w22.cell? ⟨gb152, 1, none⟩ = some (.string (⟨#[]⟩ : ByteArray)) := (blk_cell BK152.out 1).trans rfl; have hcz23_2 : w22.cell? ⟨gb152, 2, none⟩ = some (.int .i64 0) := (blk_cell BK152.out 2).trans rfl; have hcz23_3 : w22.cell? ⟨gb152, 3, none⟩ = some (.bool false) := (blk_cell BK152.out 3).trans rfl; have hcz23_4 : w22.cell? ⟨gb152, 4, none⟩ = some (.bool false) := (blk_cell BK152.out 4).trans rfl; have hcz23_5 : w22.cell? ⟨gb152, 5, none⟩ = some (.bool false) := (blk_cell BK152.out 5).trans rfl; have hfz23_0 := blk_frozen BK152.out 0; have hfz23_1 := blk_frozen BK152.out 1; have hfz23_2 := blk_frozen BK152.out 2; have hfz23_3 := blk_frozen BK152.out 3; have hfz23_4 := blk_frozen BK152.out 4; have hfz23_5 := blk_frozen BK152.out 5) | ((with_reducible refine gate_callee (f := 30) rfl ?_); refine goesL_ (some 16) rfl rfl Try.func30 (by kernel_rfl) rfl #[.int .i64 ((rd_T63 l0 x10_1).f0)] rfl (by (try simp only [List.map_toArray, List.map_cons, List.map_nil]); first | done | rfl | (simp only [List.length_drop, List.length_take]; rfl)) ?_; (with_reducible refine (compare_Cost.calls k1 ((rd_T63 l0 x10_1).f0) t153 _ A6.out).mono ?_); rintro e w' ⟨rfl, ⟨nd, rfl⟩⟩; refine ⟨_, rfl, ?_⟩))
    go_roundg k1
    case measure => have := HK1.out; omega
    case rel => exact ⟨(wrap64 (x10_1 + 1)), (by first | rfl | (simp; done) | (simp [*]; done)), H', ⟨by have := HK1.out; omega⟩, ⟨by repeat (first | (with_reducible first | exact HB.out | apply bA | apply bN | apply bD | refine below_set ?_ GE152.out) | exact HB.out)⟩⟩
   rw [if_pos c16] at H
   have c16b0 : (((rd_T63 l0 x10_1).f0) == 5) = true := beq_iff_eq.mpr c16
   have c16b1 : (((rd_T63 l0 x10_1).f0) != 5) = false := bne_eq_false_iff_eq.mpr c16
   clear c16
   by_cases c17 : (!((((rd_T63 l0 x10_1).f1.f0).toList) == ([] : List UInt8)) || (!(((rd_T63 l0 x10_1).f1.f1) == 0) || (((rd_T63 l0 x10_1).f1.f2) || (((rd_T63 l0 x10_1).f1.f3) || (((rd_T63 l0 x10_1).f1.f4)))))) = true
   ·rw [if_pos c17] at H
    have c17b0 : (!((((rd_T63 l0 x10_1).f1.f0).toList) == ([] : List UInt8)) || (!(((rd_T63 l0 x10_1).f1.f1) == 0) || (((rd_T63 l0 x10_1).f1.f2) || (((rd_T63 l0 x10_1).f1.f3) || (((rd_T63 l0 x10_1).f1.f4)))))) = true := c17
    have he_ : ((((rd_T63 l0 x10_1).f1.f0).toList) == ([] : List UInt8)) = List.isEmpty (((rd_T63 l0 x10_1).f1.f0).toList) := by cases (((rd_T63 l0 x10_1).f1.f0).toList) <;> rfl
    rw [he_] at c17b0
    clear he_
    clear c17
    obtain rfl := Option.some.inj H
    have p151 : 0 ≤ (x10_1 : Int) := of_decide_eq_true (by first | (with_reducible assumption) | assumption)
    have q151 : x10_1 < (l0.length : Int) := of_decide_eq_true (by first | (with_reducible assumption) | assumption)
    obtain ⟨ad151, e151, hx151_0, hx151_1, hx151_2, hx151_3, hx151_4, hx151_5⟩ := at_T63 HR0.out x10_1 p151 q151
    cases e151
    replace hx151_0 := hup HB.out hx151_0
    replace hx151_1 := hup HB.out hx151_1
    replace hx151_2 := hup HB.out hx151_2
    replace hx151_3 := hup HB.out hx151_3
    replace hx151_4 := hup HB.out hx151_4
    replace hx151_5 := hup HB.out hx151_5
    replace p151 := eq_true p151
    replace q151 := eq_true q151
    go_wp2_with (first | ((with_reducible refine gate_dst (N := 4) rfl ?_); refine box_event ?hg (N := 4) ?hd (cs := #[.int .i64 0, .string (⟨#[]⟩ : ByteArray), .int .i64 0, .bool false, .bool false, .bool false]) (t := 63) ?hr ?_; (case hd => rfl); (case hg => rfl); (case hr => first | (go_simp; done) | (go_simp; rfl)); intro gb152 hg w18 hbox hb; have n0_ := aS (below_step (by first | exact bel HB.out | exact HB.out) hb); have n1_ := aS (hbox); have n2_ := aS ((by rw [hg]; exact (below_size (by first | exact bel HB.out | exact HB.out)) : w.heap.size ≤ gb152)); have n3_ := aS ((by rw [hg]; exact (below_size (by first | exact bel HB.out | exact HB.out)) : w.heap.size ≤ gb152)); clear HB; have HB := n0_; have BK152 := n1_; have GW152 := n2_; have GE152 := n3_; clear n0_ n1_ n2_ n3_; clear hb hbox hg; have hcz19_0 : w18.cell? ⟨gb152, 0, none⟩ = some (.int .i64 0) := (blk_cell BK152.out 0).trans rfl; have hcz19_1 : w18.cell? ⟨gb152, 1, none⟩ = some (.string (⟨#[]⟩ : ByteArray)) := (blk_cell BK152.out 1).trans rfl; have hcz19_2 : w18.cell? ⟨gb152, 2, none⟩ = some (.int .i64 0) := (blk_cell BK152.out 2).trans rfl; have hcz19_3 : w18.cell? ⟨gb152, 3, none⟩ = some (.bool false) := (blk_cell BK152.out 3).trans rfl; have hcz19_4 : w18.cell? ⟨gb152, 4, none⟩ = some (.bool false) := (blk_cell BK152.out 4).trans rfl; have hcz19_5 : w18.cell? ⟨gb152, 5, none⟩ = some (.bool false) := (blk_cell BK152.out 5).trans rfl; have hfz19_0 := blk_frozen BK152.out 0; have hfz19_1 := blk_frozen BK152.out 1; have hfz19_2 := blk_frozen BK152.out 2; have hfz19_3 := blk_frozen BK152.out 3; have hfz19_4 := blk_frozen BK152.out 4; have hfz19_5 := blk_frozen BK152.out 5) | ((with_reducible refine gate_callee (f := 30) rfl ?_); refine goesL_ (some 16) rfl rfl Try.func30 (by kernel_rfl) rfl #[.int .i64 ((rd_T63 l0 x10_1).f0)] rfl (by (try simp only [List.map_toArray, List.map_cons, List.map_nil]); first | done | rfl | (simp only [List.length_drop, List.length_take]; rfl)) ?_; (with_reducible refine (compare_Cost.calls k1 ((rd_T63 l0 x10_1).f0) t153 _ A6.out).mono ?_); rintro e w' ⟨rfl, ⟨nd, rfl⟩⟩; refine ⟨_, rfl, ?_⟩))
    go_ret
    exact ⟨by first | rfl | (simp [errW_none, errW_some] <;> rfl) | (simp [*, errW_none, errW_some] <;> rfl), by repeat (first | (with_reducible first | exact HB.out | apply bA | apply bN | apply bD | refine below_set ?_ GE152.out) | exact HB.out)⟩
   rw [if_neg c17] at H
   have c17b0 : (!((((rd_T63 l0 x10_1).f1.f0).toList) == ([] : List UInt8)) || (!(((rd_T63 l0 x10_1).f1.f1) == 0) || (((rd_T63 l0 x10_1).f1.f2) || (((rd_T63 l0 x10_1).f1.f3) || (((rd_T63 l0 x10_1).f1.f4)))))) = false := by simpa using c17
   have he_ : ((((rd_T63 l0 x10_1).f1.f0).toList) == ([] : List UInt8)) = List.isEmpty (((rd_T63 l0 x10_1).f1.f0).toList) := by cases (((rd_T63 l0 x10_1).f1.f0).toList) <;> rfl
   rw [he_] at c17b0
   clear he_
   clear c17
   have H' := aS H
   clear H
   have p151 : 0 ≤ (x10_1 : Int) := of_decide_eq_true (by first | (with_reducible assumption) | assumption)
   have q151 : x10_1 < (l0.length : Int) := of_decide_eq_true (by first | (with_reducible assumption) | assumption)
   obtain ⟨ad151, e151, hx151_0, hx151_1, hx151_2, hx151_3, hx151_4, hx151_5⟩ := at_T63 HR0.out x10_1 p151 q151
   cases e151
   replace hx151_0 := hup HB.out hx151_0
   replace hx151_1 := hup HB.out hx151_1
   replace hx151_2 := hup HB.out hx151_2
   replace hx151_3 := hup HB.out hx151_3
   replace hx151_4 := hup HB.out hx151_4
   replace hx151_5 := hup HB.out hx151_5
   replace p151 := eq_true p151
   replace q151 := eq_true q151
   go_wp2_with (first | ((with_reducible refine gate_dst (N := 4) rfl ?_); refine box_event ?hg (N := 4) ?hd (cs := #[.int .i64 0, .string (⟨#[]⟩ : ByteArray), .int .i64 0, .bool false, .bool false, .bool false]) (t := 63) ?hr ?_; (case hd => rfl); (case hg => rfl); (case hr => first | (go_simp; done) | (go_simp; rfl)); intro gb152 hg w20 hbox hb; have n0_ := aS (below_step (by first | exact bel HB.out | exact HB.out) hb); have n1_ := aS (hbox); have n2_ := aS ((by rw [hg]; exact (below_size (by first | exact bel HB.out | exact HB.out)) : w.heap.size ≤ gb152)); have n3_ := aS ((by rw [hg]; exact (below_size (by first | exact bel HB.out | exact HB.out)) : w.heap.size ≤ gb152)); clear HB; have HB := n0_; have BK152 := n1_; have GW152 := n2_; have GE152 := n3_; clear n0_ n1_ n2_ n3_; clear hb hbox hg; have hcz21_0 : w20.cell? ⟨gb152, 0, none⟩ = some (.int .i64 0) := (blk_cell BK152.out 0).trans rfl; have hcz21_1 : w20.cell? ⟨gb152, 1, none⟩ = some (.string (⟨#[]⟩ : ByteArray)) := (blk_cell BK152.out 1).trans rfl; have hcz21_2 : w20.cell? ⟨gb152, 2, none⟩ = some (.int .i64 0) := (blk_cell BK152.out 2).trans rfl; have hcz21_3 : w20.cell? ⟨gb152, 3, none⟩ = some (.bool false) := (blk_cell BK152.out 3).trans rfl; have hcz21_4 : w20.cell? ⟨gb152, 4, none⟩ = some (.bool false) := (blk_cell BK152.out 4).trans rfl; have hcz21_5 : w20.cell? ⟨gb152, 5, none⟩ = some (.bool false) := (blk_cell BK152.out 5).trans rfl; have hfz21_0 := blk_frozen BK152.out 0; have hfz21_1 := blk_frozen BK152.out 1; have hfz21_2 := blk_frozen BK152.out 2; have hfz21_3 := blk_frozen BK152.out 3; have hfz21_4 := blk_frozen BK152.out 4; have hfz21_5 := blk_frozen BK152.out 5) | ((with_reducible refine gate_callee (f := 30) rfl ?_); refine goesL_ (some 16) rfl rfl Try.func30 (by kernel_rfl) rfl #[.int .i64 ((rd_T63 l0 x10_1).f0)] rfl (by (try simp only [List.map_toArray, List.map_cons, List.map_nil]); first | done | rfl | (simp only [List.length_drop, List.length_take]; rfl)) ?_; (with_reducible refine (compare_Cost.calls k1 ((rd_T63 l0 x10_1).f0) t153 _ A6.out).mono ?_); rintro e w' ⟨rfl, ⟨nd, rfl⟩⟩; refine ⟨_, rfl, ?_⟩))
   go_roundg k1
   case measure => have := HK1.out; omega
   case rel => exact ⟨(wrap64 (x10_1 + 1)), (by first | rfl | (simp; done) | (simp [*]; done)), H', ⟨by have := HK1.out; omega⟩, ⟨by repeat (first | (with_reducible first | exact HB.out | apply bA | apply bN | apply bD | refine below_set ?_ GE152.out) | exact HB.out)⟩⟩
end Go.Proofs.Ytjmbkbnbepmhjaa.P
