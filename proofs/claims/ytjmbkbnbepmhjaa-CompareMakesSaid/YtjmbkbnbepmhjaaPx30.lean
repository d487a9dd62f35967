-- out of a program (drive.sh), by way of the translation's print
import Derived.Test.YtjmbkbnbepmhjaaPx0
import Derived.Test.YtjmbkbnbepmhjaaPx4
import Derived.Test.YtjmbkbnbepmhjaaPx11
namespace Go.Proofs.Ytjmbkbnbepmhjaa.P
open Go.RowKit Go.Proofs.YtjmbkbnbepmhjaaW.PrintWords Go.Proofs.YtjmbkbnbepmhjaaW.PrintLast Go.Proofs.YtjmbkbnbepmhjaaW.PrintMore
attribute [local go_sem] max2_int min2_int max_two min_two max_three min_three max_four min_four   -- for this text's walks alone
set_option linter.unusedVariables false
set_option linter.unusedSimpArgs false

/-! ### compare_Total: function 26 -/
def compare_Total.l0 : Nat → Int → List (S63) → Int → Int → Option (Int × Int)
 | 0, _, _, _, _ => none
 | k + 1, x5, x13, x14, x15 => if x15 < x14 then (if 0 ≤ x15 then (if x15 < (x13.length : Int) then ((compare_Cost.f k ((rd_T63 x13 x15).f0)).bind fun t416 => (compare_Total.l0 k (wrap64 (x5 + t416)) x13 x14 (wrap64 (x15 + 1)))) else (none)) else (none)) else (some (x5, 0))
def compare_Total.f (k : Nat) (l0 : List (S63)) : Option (Int × Int) := (compare_check.f k l0).bind fun t413 => (if t413 = 0 then (compare_Total.l0 k 0 l0 (l0.length : Int) 0) else (some (0, t413)))
theorem compare_Total.mono_l : ∀ k, (∀ y0 y1 y2 y3, LeO (compare_Total.l0 k y0 y1 y2 y3) (compare_Total.l0 (k + 1) y0 y1 y2 y3))
 | 0 => fun _ _ _ _ r h => by simp [compare_Total.l0] at h
 | k + 1 => by
  have ih0 := compare_Total.mono_l k
  ·intro y0 y1 y2 y3
   unfold compare_Total.l0
   repeat' first
   | (with_reducible exact ih0 _ _ _ _)
   | (with_reducible exact compare_Cost.mono _ _)
   | (with_reducible exact compare_check.mono _ _)
   | (with_reducible exact LeO.refl _)
   | (with_reducible exact LeO.none _)
   | (with_reducible refine LeO.ite ?_ ?_)
   | (with_reducible refine LeO.bind ?_ (fun _ => ?_))
   | exact ih0 _ _ _ _
   | exact compare_Cost.mono _ _
   | exact compare_check.mono _ _
   | exact LeO.none _
   | refine LeO.ite ?_ ?_
   | refine LeO.bind ?_ (fun _ => ?_)
theorem compare_Total.mono : ∀ a0 k, LeO (compare_Total.f k a0) (compare_Total.f (k + 1) a0) := by
 intro a0 k
 have ih0 := compare_Total.mono_l k
 unfold compare_Total.f
 repeat' first
   | (with_reducible exact ih0 _ _ _ _)
   | (with_reducible exact compare_Cost.mono _ _)
   | (with_reducible exact compare_check.mono _ _)
   | (with_reducible exact LeO.refl _)
   | (with_reducible exact LeO.none _)
   | (with_reducible refine LeO.ite ?_ ?_)
   | (with_reducible refine LeO.bind ?_ (fun _ => ?_))
   | exact ih0 _ _ _ _
   | exact compare_Cost.mono _ _
   | exact compare_check.mono _ _
   | exact LeO.none _
   | refine LeO.ite ?_ ?_
   | refine LeO.bind ?_ (fun _ => ?_)
set_option maxHeartbeats 8000000 in
set_option maxRecDepth 100000 in
theorem compare_Total.calls (k : Nat) (A0 : Option Addr) (c0 : Nat) (l0 : List (S63)) (r1 : Int) (r2 : Int) (w : World) (hr0 : Kd.C k63 w A0 l0.length l0) (hc0 : l0.length ≤ c0) (h : compare_Total.f k l0 = some (r1, r2)) :
  Calls Try.prog 26 #[.slice A0 l0.length c0] w fun e w' => e = .returned (.tuple #[.int .i64 r1, .int .i64 r2]) ∧ Below w.heap.size w w' := by
 have hu63 := Try.underlying63
 have HR0 := Aside0.mk hr0
 have HC0 := Aside0.mk hc0
 clear hr0 hc0
 have HB := Aside0.mk (Below.refl w.heap.size w)
 have H : ((compare_check.f k l0).bind fun t413 => (if t413 = 0 then (compare_Total.l0 k 0 l0 (l0.length : Int) 0) else (some (0, t413)))) = some (r1, r2) := h
 clear h
 replace H := Option.bind_eq_some_iff.mp H
 obtain ⟨t413, A20, H⟩ := H
 replace H : (if t413 = 0 then (compare_Total.l0 k 0 l0 (l0.length : Int) 0) else (some (0, t413))) = some (r1, r2) := H
 have A2 := Aside0.mk A20
 clear A20
 by_cases c3 : t413 = 0
 rotate_left
 ·rw [if_neg c3] at H
  have c3b0 : (t413 == 0) = false := beq_eq_false_iff_ne.mpr c3
  have c3b1 : (t413 != 0) = true := bne_iff_ne.mpr c3
  simp only [Option.some.injEq, Prod.mk.injEq] at H
  obtain ⟨rfl, rfl⟩ := H
  go_enter Try.func26, Try.ntmps26
  go_wp2_with (first | ((with_reducible refine gate_callee (f := 40) rfl ?_); refine goesL_ (some 9) rfl rfl Try.func40 (by kernel_rfl) rfl #[.slice A0 l0.length c0] rfl (by (try simp only [List.map_toArray, List.map_cons, List.map_nil]); first | done | rfl | (simp only [List.length_drop, List.length_take]; rfl)) ?_; (with_reducible refine (compare_check.calls k _ _ l0 t413 _ ?side1 ?side2 A2.out).mono ?_); (case side1 => repeat (first | exact HR0.out | (with_reducible apply Kd.C_alloc) | (with_reducible apply Kd.C_drewN) | (with_reducible apply Kd.C_drew))); (case side2 => exact HC0.out); rintro e w11 ⟨rfl, hb⟩; refine ⟨_, rfl, ?_⟩; have n0_ := Aside0.mk (below_step (by repeat (first | (with_reducible first | exact HB.out | apply bA | apply bN | apply bD) | exact HB.out)) hb); clear HB; have HB := n0_; clear n0_; (try clear hb); (try clear hb2); (try clear hk); (try clear hi)))
  go_ret2
  exact ⟨by first | rfl | (simp [errW_none, errW_some] <;> rfl) | (simp [*, errW_none, errW_some] <;> rfl), by repeat (first | (with_reducible first | exact HB.out | apply bA | apply bN | apply bD) | exact HB.out)⟩

 rw [if_pos c3] at H
 have c3b0 : (t413 == 0) = true := beq_iff_eq.mpr c3
 have c3b1 : (t413 != 0) = false := bne_eq_false_iff_eq.mpr c3
 clear c3
 have H' := Aside0.mk H
 clear H
 go_enter Try.func26, Try.ntmps26
 go_wp2_with (first | ((with_reducible refine gate_callee (f := 40) rfl ?_); refine goesL_ (some 9) rfl rfl Try.func40 (by kernel_rfl) rfl #[.slice A0 l0.length c0] rfl (by (try simp only [List.map_toArray, List.map_cons, List.map_nil]); first | done | rfl | (simp only [List.length_drop, List.length_take]; rfl)) ?_; (with_reducible refine (compare_check.calls k _ _ l0 t413 _ ?side1 ?side2 A2.out).mono ?_); (case side1 => repeat (first | exact HR0.out | (with_reducible apply Kd.C_alloc) | (with_reducible apply Kd.C_drewN) | (with_reducible apply Kd.C_drew))); (case side2 => exact HC0.out); rintro e w4 ⟨rfl, hb⟩; refine ⟨_, rfl, ?_⟩; have n0_ := Aside0.mk (below_step (by repeat (first | (with_reducible first | exact HB.out | apply bA | apply bN | apply bD) | exact HB.out)) hb); clear HB; have HB := n0_; clear n0_; (try clear hb); (try clear hb2); (try clear hk); (try clear hi)))
 go_loopg [5, 15] k (fun kq v5 v15 w' => ∃ (x5_1 : Int) (x15_1 : Int), v5 = .int .i64 x5_1 ∧ v15 = .int .i64 x15_1 ∧ Aside0 (compare_Total.l0 kq x5_1 l0 (l0.length : Int) x15_1 = some (r1, r2)) ∧ Aside0 (kq ≤ k) ∧ Aside0 (Below w.heap.size w w'))
 case atStart => exact ⟨(0), (0), (by first | rfl | (simp; done) | (simp [*]; done)), (by first | rfl | (simp; done) | (simp [*]; done)), H', ⟨Nat.le_refl _⟩, ⟨by repeat (first | (with_reducible first | exact HB.out | apply bA | apply bN | apply bD) | exact HB.out)⟩⟩
 case round =>
  clear H'
  try clear c2
  try clear p2
  try clear c3
  try clear c3b0
  try clear c3b1
  try clear c4
  obtain ⟨x5_1, x15_1, rfl, rfl, HA, HK1, HB⟩ := hrel
  cases gk with
  | zero => exact absurd HA.out (by simp [compare_Total.l0])
  | succ k1 =>
   have H := HA.out
   clear HA
   simp only [compare_Total.l0] at H
   by_cases c5 : x15_1 < (l0.length : Int)
   rotate_left
   ·rw [if_neg c5] at H
    have c5b0 : decide (x15_1 < (l0.length : Int)) = false := decide_eq_false c5
    clear c5
    simp only [Option.some.injEq, Prod.mk.injEq] at H
    obtain ⟨rfl, rfl⟩ := H
    go_wp2
    go_ret2
    exact ⟨by first | rfl | (simp [errW_none, errW_some] <;> rfl) | (simp [*, errW_none, errW_some] <;> rfl), by repeat (first | (with_reducible first | exact HB.out | apply bA | apply bN | apply bD) | exact HB.out)⟩
   rw [if_pos c5] at H
   have c5b0 : decide (x15_1 < (l0.length : Int)) = true := decide_eq_true c5
   clear c5
   by_cases c6 : 0 ≤ x15_1
   rotate_left
   ·rw [if_neg c6] at H
    exact absurd H (by simp)
   rw [if_pos c6] at H
   have c6b0 : decide (0 ≤ x15_1) = true := decide_eq_true c6
   clear c6
   by_cases c7 : x15_1 < (l0.length : Int)
   rotate_left
   ·rw [if_neg c7] at H
    exact absurd H (by simp)
   rw [if_pos c7] at H
   have c7b0 : decide (x15_1 < (l0.length : Int)) = true := decide_eq_true c7
   clear c7
   replace H := Option.bind_eq_some_iff.mp H
   obtain ⟨t416, A80, H⟩ := H
   replace H : (compare_Total.l0 k1 (wrap64 (x5_1 + t416)) l0 (l0.length : Int) (wrap64 (x15_1 + 1))) = some (r1, r2) := H
   have A8 := Aside0.mk A80
   clear A80
   have H' := Aside0.mk H
   clear H
   have p414 : 0 ≤ (x15_1 : Int) := of_decide_eq_true (by first | (with_reducible assumption) | assumption)
   have q414 : x15_1 < (l0.length : Int) := of_decide_eq_true (by first | (with_reducible assumption) | assumption)
   obtain ⟨ad414, e414, hx414_0, hx414_1, hx414_2, hx414_3, hx414_4, hx414_5⟩ := at_T63 HR0.out x15_1 p414 q414
   cases e414
   replace hx414_0 := (HB.out.cell (World.block_lt_of_cell? w _ hx414_0)).trans hx414_0
   replace hx414_1 := (HB.out.cell (World.block_lt_of_cell? w _ hx414_1)).trans hx414_1
   replace hx414_2 := (HB.out.cell (World.block_lt_of_cell? w _ hx414_2)).trans hx414_2
   replace hx414_3 := (HB.out.cell (World.block_lt_of_cell? w _ hx414_3)).trans hx414_3
   replace hx414_4 := (HB.out.cell (World.block_lt_of_cell? w _ hx414_4)).trans hx414_4
   replace hx414_5 := (HB.out.cell (World.block_lt_of_cell? w _ hx414_5)).trans hx414_5
   replace p414 := eq_true p414
   replace q414 := eq_true q414
   go_wp2_with (first | ((with_reducible refine gate_dst (N := 7) rfl ?_); refine box_event ?hg (N := 7) ?hd (cs := #[.int .i64 0, .string (⟨#[]⟩ : ByteArray), .int .i64 0, .bool false, .bool false, .bool false]) (t := 63) ?hr ?_; (case hd => rfl); (case hg => rfl); (case hr => first | (go_simp; done) | (go_simp; rfl)); intro gb415 hg w9 hbox hb; have n0_ := Aside0.mk (below_step (by repeat (first | (with_reducible first | exact HB.out | apply bA | apply bN | apply bD) | exact HB.out)) hb); have n1_ := Aside0.mk (hbox); have n2_ := Aside0.mk ((by rw [hg]; exact (below_size (by repeat (first | (with_reducible first | exact HB.out | apply bA | apply bN | apply bD) | exact HB.out))) : w.heap.size ≤ gb415)); have n3_ := Aside0.mk ((by rw [hg]; exact (below_size (by repeat (first | (with_reducible first | exact HB.out | apply bA | apply bN | apply bD) | exact HB.out))) : w.heap.size ≤ gb415)); clear HB; have HB := n0_; have BK415 := n1_; have GW415 := n2_; have GE415 := n3_; clear n0_ n1_ n2_ n3_; clear hb hbox hg; have hcz10_0 : w9.cell? ⟨gb415, 0, none⟩ = some (.int .i64 0) := (blk_cell BK415.out 0).trans rfl; have hcz10_1 : w9.cell? ⟨gb415, 1, none⟩ = some (.string (⟨#[]⟩ : ByteArray)) := (blk_cell BK415.out 1).trans rfl; have hcz10_2 : w9.cell? ⟨gb415, 2, none⟩ = some (.int .i64 0) := (blk_cell BK415.out 2).trans rfl; have hcz10_3 : w9.cell? ⟨gb415, 3, none⟩ = some (.bool false) := (blk_cell BK415.out 3).trans rfl; have hcz10_4 : w9.cell? ⟨gb415, 4, none⟩ = some (.bool false) := (blk_cell BK415.out 4).trans rfl; have hcz10_5 : w9.cell? ⟨gb415, 5, none⟩ = some (.bool false) := (blk_cell BK415.out 5).trans rfl; have hfz10_0 := blk_frozen BK415.out 0; have hfz10_1 := blk_frozen BK415.out 1; have hfz10_2 := blk_frozen BK415.out 2; have hfz10_3 := blk_frozen BK415.out 3; have hfz10_4 := blk_frozen BK415.out 4; have hfz10_5 := blk_frozen BK415.out 5) | ((with_reducible refine gate_callee (f := 30) rfl ?_); refine goesL_ (some 22) rfl rfl Try.func30 (by kernel_rfl) rfl #[.int .i64 ((rd_T63 l0 x15_1).f0)] rfl (by (try simp only [List.map_toArray, List.map_cons, List.map_nil]); first | done | rfl | (simp only [List.length_drop, List.length_take]; rfl)) ?_; (with_reducible refine (compare_Cost.calls k1 ((rd_T63 l0 x15_1).f0) t416 _ A8.out).mono ?_); rintro e w' ⟨rfl, ⟨nd, rfl⟩⟩; refine ⟨_, rfl, ?_⟩))
   go_roundg k1
   case measure => have := HK1.out; omega
   case rel => exact ⟨(wrap64 (x5_1 + t416)), (wrap64 (x15_1 + 1)), (by first | rfl | (simp; done) | (simp [*]; done)), (by first | rfl | (simp; done) | (simp [*]; done)), H', ⟨by have := HK1.out; omega⟩, ⟨by repeat (first | (with_reducible first | exact HB.out | apply bA | apply bN | apply bD | refine below_set ?_ GE415.out) | exact HB.out)⟩⟩
end Go.Proofs.Ytjmbkbnbepmhjaa.P
