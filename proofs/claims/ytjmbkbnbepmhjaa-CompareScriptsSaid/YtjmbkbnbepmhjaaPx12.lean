-- out of a program (drive.sh), by way of the translation's print
import Derived.Test.YtjmbkbnbepmhjaaPx0
import Derived.Test.YtjmbkbnbepmhjaaPx5
import Derived.Test.YtjmbkbnbepmhjaaPx11
namespace Go.Proofs.Ytjmbkbnbepmhjaa.P
open Go.RowKit Go.Proofs.YtjmbkbnbepmhjaaW.PrintWords Go.Proofs.YtjmbkbnbepmhjaaW.PrintLast Go.Proofs.YtjmbkbnbepmhjaaW.PrintMore
attribute [local go_sem] max2_int min2_int max_two min_two max_three min_three max_four min_four   -- for this text's walks alone
set_option linter.unusedVariables false
set_option linter.unusedSimpArgs false

/-! ### compare_fits: function 37 -/
def compare_fits.l0 : Nat → List (S50) → Int → List (S63) → Int → Int → Option (Int)
 | 0, _, _, _, _, _ => none
 | k + 1, x0, x6, x17, x18, x19 => if x19 < x18 then (if 0 ≤ x19 then (if x19 < (x17.length : Int) then (if ((rd_T63 x17 x19).f0) = 4 then (compare_fits.l0 k x0 x6 x17 x18 (wrap64 (x19 + 1))) else (if x6 = (x0.length : Int) then (some 7) else (if ((rd_T63 x17 x19).f0) = 2 then (if 0 ≤ x6 then (if x6 < (x0.length : Int) then ((compare_taking.f ((rd_T50 x0 x6).f0) ((rd_T50 x0 x6).f1) ((rd_T50 x0 x6).f2) ((rd_T50 x0 x6).f3) ((rd_T50 x0 x6).f4) ((rd_T63 x17 x19).f1.f0) ((rd_T63 x17 x19).f1.f1) ((rd_T63 x17 x19).f1.f2) ((rd_T63 x17 x19).f1.f3) ((rd_T63 x17 x19).f1.f4)).bind fun t158 => (if t158 = ((rd_T63 x17 x19).f0) then (compare_fits.l0 k x0 (wrap64 (x6 + 1)) x17 x18 (wrap64 (x19 + 1))) else (some 7))) else (none)) else (none)) else (if ((rd_T63 x17 x19).f0) = 3 then (if 0 ≤ x6 then (if x6 < (x0.length : Int) then ((compare_taking.f ((rd_T50 x0 x6).f0) ((rd_T50 x0 x6).f1) ((rd_T50 x0 x6).f2) ((rd_T50 x0 x6).f3) ((rd_T50 x0 x6).f4) ((rd_T63 x17 x19).f1.f0) ((rd_T63 x17 x19).f1.f1) ((rd_T63 x17 x19).f1.f2) ((rd_T63 x17 x19).f1.f3) ((rd_T63 x17 x19).f1.f4)).bind fun t160 => (if t160 = ((rd_T63 x17 x19).f0) then (compare_fits.l0 k x0 (wrap64 (x6 + 1)) x17 x18 (wrap64 (x19 + 1))) else (some 7))) else (none)) else (none)) else (compare_fits.l0 k x0 (wrap64 (x6 + 1)) x17 x18 (wrap64 (x19 + 1))))))) else (none)) else (none)) else (if x6 < (x0.length : Int) then (some 7) else (some 0))
def compare_fits.f (k : Nat) (l0 : List (S50)) (l1 : List (S63)) : Option (Int) := if (l0.length : Int) > 30 then (some 6) else ((compare_check.f k l1).bind fun t154 => (if t154 = 0 then (compare_fits.l0 k l0 0 l1 (l1.length : Int) 0) else (some t154)))
theorem compare_fits.mono_l : ∀ k, (∀ y0 y1 y2 y3 y4, LeO (compare_fits.l0 k y0 y1 y2 y3 y4) (compare_fits.l0 (k + 1) y0 y1 y2 y3 y4))
 | 0 => fun _ _ _ _ _ r h => by simp [compare_fits.l0] at h
 | k + 1 => by
  have ih0 := compare_fits.mono_l k
  ·intro y0 y1 y2 y3 y4
   unfold compare_fits.l0
   repeat' first
   | (with_reducible exact ih0 _ _ _ _ _)
   | (with_reducible exact compare_check.mono _ _)
   | (with_reducible exact LeO.refl _)
   | (with_reducible exact LeO.none _)
   | (with_reducible refine LeO.ite ?_ ?_)
   | (with_reducible refine LeO.bind ?_ (fun _ => ?_))
   | exact ih0 _ _ _ _ _
   | exact compare_check.mono _ _
   | exact LeO.none _
   | refine LeO.ite ?_ ?_
   | refine LeO.bind ?_ (fun _ => ?_)
theorem compare_fits.mono : ∀ a0 a1 k, LeO (compare_fits.f k a0 a1) (compare_fits.f (k + 1) a0 a1) := by
 intro a0 a1 k
 have ih0 := compare_fits.mono_l k
 unfold compare_fits.f
 repeat' first
   | (with_reducible exact ih0 _ _ _ _ _)
   | (with_reducible exact compare_check.mono _ _)
   | (with_reducible exact LeO.refl _)
   | (with_reducible exact LeO.none _)
   | (with_reducible refine LeO.ite ?_ ?_)
   | (with_reducible refine LeO.bind ?_ (fun _ => ?_))
   | exact ih0 _ _ _ _ _
   | exact compare_check.mono _ _
   | exact LeO.none _
   | refine LeO.ite ?_ ?_
   | refine LeO.bind ?_ (fun _ => ?_)
def compare_fits.T11 : Bool × List (List Nat × List Nat) := (true, [([], []), ([], []), ([1], [1]), ([0, 2], [0, 2]), ([3], [3]), ([4], [4]), ([5, 4], [4, 5]), ([6, 4], [4, 6]), ([7, 4, 4], [4, 7]), ([8], [8]), ([9, 8], [8, 9]), ([10, 8], [8, 10]), ([8, 11, 4], [4, 8, 11]), ([12, 8, 4], [4, 12]), ([13], [13]), ([13], [13]), ([14, 15, 13], [13, 14, 15]), ([16, 13], [13, 16]), ([13], [13]), ([18, 13], [13, 18]), ([17, 19, 13, 13], [13, 17, 19]), ([13], [13]), ([21, 13], [13, 21]), ([20, 22, 13], [13, 20, 22]), ([13, 23, 4], [4, 13, 23]), ([4, 24], [4, 24])])
def compare_fits.B11 : List Nat := [0, 0, 2, 7, 15, 31, 63, 127, 255, 511, 1023, 2047, 4095, 8191, 16383, 16383, 65535, 131071, 16383, 278527, 1048575, 16383, 2113535, 8388607, 16777215, 33554431]
theorem compare_fits.tab11 : rtab .any (opsOf Try.f37 11) = compare_fits.T11 := by kernel_rfl
theorem compare_fits.bits11 : waitsOk compare_fits.T11.2 compare_fits.B11 = true := by kernel_rfl
set_option maxHeartbeats 8000000 in
set_option maxRecDepth 100000 in
theorem compare_fits.calls (k : Nat) (A0 : Option Addr) (c0 : Nat) (l0 : List (S50)) (A1 : Option Addr) (c1 : Nat) (l1 : List (S63)) (r : Int) (w : World) (hr0 : Kd.C k50 w A0 l0.length l0) (hc0 : l0.length ≤ c0) (hr1 : Kd.C k63 w A1 l1.length l1) (hc1 : l1.length ≤ c1) (h : compare_fits.f k l0 l1 = some r) :
  Calls Try.prog 37 #[.slice A0 l0.length c0, .slice A1 l1.length c1] w fun e w' => e = .returned (.int .i64 r) ∧ Below w.heap.size w w' := by
 have hu63 := Try.underlying63
 have hu50 := Try.underlying50
 have HR0 := aS hr0
 have HC0 := aS hc0
 clear hr0 hc0
 have HR1 := aS hr1
 have HC1 := aS hc1
 clear hr1 hc1
 have HB := aS (Below.refl w.heap.size w)
 have H : (if (l0.length : Int) > 30 then (some 6) else ((compare_check.f k l1).bind fun t154 => (if t154 = 0 then (compare_fits.l0 k l0 0 l1 (l1.length : Int) 0) else (some t154)))) = some r := h
 clear h
 by_cases c3 : (l0.length : Int) > 30
 ·rw [if_pos c3] at H
  have c3b0 : decide (30 < (l0.length : Int)) = true := decide_eq_true c3
  have c3b1 : decide (30 < l0.length) = true := decide_eq_true (by omega)
  clear c3
  obtain rfl := Option.some.inj H
  go_enter Try.func37, Try.ntmps37
  go_wp2
  go_ret
  exact ⟨by first | rfl | (simp [errW_none, errW_some] <;> rfl) | (simp [*, errW_none, errW_some] <;> rfl), by first | exact bel HB.out | exact HB.out⟩
 rw [if_neg c3] at H
 have c3b0 : decide (30 < (l0.length : Int)) = false := decide_eq_false c3
 have c3b1 : decide (30 < l0.length) = false := decide_eq_false (by omega)
 clear c3
 replace H := Option.bind_eq_some_iff.mp H
 obtain ⟨t154, A40, H⟩ := H
 replace H : (if t154 = 0 then (compare_fits.l0 k l0 0 l1 (l1.length : Int) 0) else (some t154)) = some r := H
 have A4 := aS A40
 clear A40
 by_cases c5 : t154 = 0
 rotate_left
 ·rw [if_neg c5] at H
  have c5b0 : (t154 == 0) = false := beq_eq_false_iff_ne.mpr c5
  have c5b1 : (t154 != 0) = true := bne_iff_ne.mpr c5
  obtain rfl := Option.some.inj H
  go_enter Try.func37, Try.ntmps37
  go_wp2_with (first | ((with_reducible refine gate_callee (f := 40) rfl ?_); refine goesL_ (some 13) rfl rfl Try.func40 (by kernel_rfl) rfl #[.slice A1 l1.length c1] rfl (by (try simp only [List.map_toArray, List.map_cons, List.map_nil]); first | done | rfl | (simp only [List.length_drop, List.length_take]; rfl)) ?_; (with_reducible refine (compare_check.calls k _ _ l1 t154 _ ?side1 ?side2 A4.out).mono ?_); (case side1 => repeat (first | exact HR1.out | (with_reducible apply Kd.C_alloc) | (with_reducible apply Kd.C_drewN) | (with_reducible apply Kd.C_drew))); (case side2 => exact HC1.out); rintro e w53 ⟨rfl, hb⟩; refine ⟨_, rfl, ?_⟩; have n0_ := aS (below_step (by first | exact bel HB.out | exact HB.out) hb); clear HB; have HB := n0_; clear n0_; (try clear hb); (try clear hb2); (try clear hk); (try clear hi)))
  go_ret
  exact ⟨by first | rfl | (simp [errW_none, errW_some] <;> rfl) | (simp [*, errW_none, errW_some] <;> rfl), by first | exact bel HB.out | exact HB.out⟩

 rw [if_pos c5] at H
 have c5b0 : (t154 == 0) = true := beq_iff_eq.mpr c5
 have c5b1 : (t154 != 0) = false := bne_eq_false_iff_eq.mpr c5
 clear c5
 have H' := aS H
 clear H
 go_enter Try.func37, Try.ntmps37
 go_wp2_with (first | ((with_reducible refine gate_callee (f := 40) rfl ?_); refine goesL_ (some 13) rfl rfl Try.func40 (by kernel_rfl) rfl #[.slice A1 l1.length c1] rfl (by (try simp only [List.map_toArray, List.map_cons, List.map_nil]); first | done | rfl | (simp only [List.length_drop, List.length_take]; rfl)) ?_; (with_reducible refine (compare_check.calls k _ _ l1 t154 _ ?side1 ?side2 A4.out).mono ?_); (case side1 => repeat (first | exact HR1.out | (with_reducible apply Kd.C_alloc) | (with_reducible apply Kd.C_drewN) | (with_reducible apply Kd.C_drew))); (case side2 => exact HC1.out); rintro e w6 ⟨rfl, hb⟩; refine ⟨_, rfl, ?_⟩; have n0_ := aS (below_step (by first | exact bel HB.out | exact HB.out) hb); clear HB; have HB := n0_; clear n0_; (try clear hb); (try clear hb2); (try clear hk); (try clear hi)))
 go_loopg [6, 19] k (fun kq v6 v19 w' => ∃ (x6_1 : Int) (x19_1 : Int), v6 = .int .i64 x6_1 ∧ v19 = .int .i64 x19_1 ∧ Aside0 (compare_fits.l0 kq l0 x6_1 l1 (l1.length : Int) x19_1 = some r) ∧ Aside0 (kq ≤ k) ∧ Aside0 (Below w.heap.size w w'))
 case atStart => exact ⟨(0), (0), (by first | rfl | (simp; done) | (simp [*]; done)), (by first | rfl | (simp; done) | (simp [*]; done)), H', ⟨Nat.le_refl _⟩, ⟨by first | exact bel HB.out | exact HB.out⟩⟩
 case round =>
  clear H'
  try clear c1
  try clear p2
  try clear c3
  try clear c3b0
  try clear c3b1
  try clear c4
  try clear c5
  try clear c5b0
  try clear c5b1
  obtain ⟨x6_1, x19_1, rfl, rfl, HA, HK1, HB⟩ := hrel
  cases gk with
  | zero => exact absurd HA.out (by simp [compare_fits.l0])
  | succ k1 =>
   have H := HA.out
   clear HA
   simp only [compare_fits.l0] at H
   by_cases c7 : x19_1 < (l1.length : Int)
   rotate_left
   ·rw [if_neg c7] at H
    have c7b0 : decide (x19_1 < (l1.length : Int)) = false := decide_eq_false c7
    clear c7
    by_cases c52 : x6_1 < (l0.length : Int)
    rotate_left
    ·rw [if_neg c52] at H
     have c52b0 : decide (x6_1 < (l0.length : Int)) = false := decide_eq_false c52
     clear c52
     obtain rfl := Option.some.inj H
     go_wp2
     go_ret
     exact ⟨by first | rfl | (simp [errW_none, errW_some] <;> rfl) | (simp [*, errW_none, errW_some] <;> rfl), by first | exact bel HB.out | exact HB.out⟩
    rw [if_pos c52] at H
    have c52b0 : decide (x6_1 < (l0.length : Int)) = true := decide_eq_true c52
    clear c52
    obtain rfl := Option.some.inj H
    go_wp2
    go_ret
    exact ⟨by first | rfl | (simp [errW_none, errW_some] <;> rfl) | (simp [*, errW_none, errW_some] <;> rfl), by first | exact bel HB.out | exact HB.out⟩
   rw [if_pos c7] at H
   have c7b0 : decide (x19_1 < (l1.length : Int)) = true := decide_eq_true c7
   clear c7
   by_cases c8 : 0 ≤ x19_1
   rotate_left
   ·rw [if_neg c8] at H
    exact absurd H (by simp)
   rw [if_pos c8] at H
   have c8b0 : decide (0 ≤ x19_1) = true := decide_eq_true c8
   clear c8
   by_cases c9 : x19_1 < (l1.length : Int)
   rotate_left
   ·rw [if_neg c9] at H
    exact absurd H (by simp)
   rw [if_pos c9] at H
   have c9b0 : decide (x19_1 < (l1.length : Int)) = true := decide_eq_true c9
   clear c9
   by_cases c10 : ((rd_T63 l1 x19_1).f0) = 4
   ·rw [if_pos c10] at H
    have c10b0 : (((rd_T63 l1 x19_1).f0) == 4) = true := beq_iff_eq.mpr c10
    have c10b1 : (((rd_T63 l1 x19_1).f0) != 4) = false := bne_eq_false_iff_eq.mpr c10
    clear c10
    have H' := aS H
    clear H
    have p155 : 0 ≤ (x19_1 : Int) := of_decide_eq_true (by first | (with_reducible assumption) | assumption)
    have q155 : x19_1 < (l1.length : Int) := of_decide_eq_true (by first | (with_reducible assumption) | assumption)
    obtain ⟨ad155, e155, hx155_0, hx155_1, hx155_2, hx155_3, hx155_4, hx155_5⟩ := at_T63 HR1.out x19_1 p155 q155
    cases e155
    replace hx155_0 := hup HB.out hx155_0
    replace hx155_1 := hup HB.out hx155_1
    replace hx155_2 := hup HB.out hx155_2
    replace hx155_3 := hup HB.out hx155_3
    replace hx155_4 := hup HB.out hx155_4
    replace hx155_5 := hup HB.out hx155_5
    replace p155 := eq_true p155
    replace q155 := eq_true q155
    go_wp2_with (first | ((with_reducible refine gate_dst (N := 8) rfl ?_); refine box_event ?hg (N := 8) ?hd (cs := #[.int .i64 0, .string (⟨#[]⟩ : ByteArray), .int .i64 0, .bool false, .bool false, .bool false]) (t := 63) ?hr ?_; (case hd => rfl); (case hg => rfl); (case hr => first | (go_simp; done) | (go_simp; rfl)); intro gb156 hg w11 hbox hb; have n0_ := aS (below_step (by first | exact bel HB.out | exact HB.out) hb); have n1_ := aS (hbox); have n2_ := aS ((by rw [hg]; exact (below_size (by first | exact bel HB.out | exact HB.out)) : w.heap.size ≤ gb156)); have n3_ := aS ((by rw [hg]; exact (below_size (by first | exact bel HB.out | exact HB.out)) : w.heap.size ≤ gb156)); clear HB; have HB := n0_; have BK156 := n1_; have GW156 := n2_; have GE156 := n3_; clear n0_ n1_ n2_ n3_; clear hb hbox hg; have hcz12_0 : w11.cell? ⟨gb156, 0, none⟩ = some (.int .i64 0) := (blk_cell BK156.out 0).trans rfl; have hcz12_1 : w11.cell? ⟨gb156, 1, none⟩ = some (.string (⟨#[]⟩ : ByteArray)) := (blk_cell BK156.out 1).trans rfl; have hcz12_2 : w11.cell? ⟨gb156, 2, none⟩ = some (.int .i64 0) := (blk_cell BK156.out 2).trans rfl; have hcz12_3 : w11.cell? ⟨gb156, 3, none⟩ = some (.bool false) := (blk_cell BK156.out 3).trans rfl; have hcz12_4 : w11.cell? ⟨gb156, 4, none⟩ = some (.bool false) := (blk_cell BK156.out 4).trans rfl; have hcz12_5 : w11.cell? ⟨gb156, 5, none⟩ = some (.bool false) := (blk_cell BK156.out 5).trans rfl; have hfz12_0 := blk_frozen BK156.out 0; have hfz12_1 := blk_frozen BK156.out 1; have hfz12_2 := blk_frozen BK156.out 2; have hfz12_3 := blk_frozen BK156.out 3; have hfz12_4 := blk_frozen BK156.out 4; have hfz12_5 := blk_frozen BK156.out 5))
    go_roundg k1
    case measure => have := HK1.out; omega
    case rel => exact ⟨(x6_1), (wrap64 (x19_1 + 1)), (by first | rfl | (simp; done) | (simp [*]; done)), (by first | rfl | (simp; done) | (simp [*]; done)), H', ⟨by have := HK1.out; omega⟩, ⟨by repeat (first | (with_reducible first | exact HB.out | apply bA | apply bN | apply bD | refine below_set ?_ GE156.out) | exact HB.out)⟩⟩
   rw [if_neg c10] at H
   have c10b0 : (((rd_T63 l1 x19_1).f0) == 4) = false := beq_eq_false_iff_ne.mpr c10
   have c10b1 : (((rd_T63 l1 x19_1).f0) != 4) = true := bne_iff_ne.mpr c10
   by_cases c13 : x6_1 = (l0.length : Int)
   ·rw [if_pos c13] at H
    have c13b0 : (x6_1 == (l0.length : Int)) = true := beq_iff_eq.mpr c13
    have c13b1 : (x6_1 != (l0.length : Int)) = false := bne_eq_false_iff_eq.mpr c13
    clear c13
    obtain rfl := Option.some.inj H
    have p155 : 0 ≤ (x19_1 : Int) := of_decide_eq_true (by first | (with_reducible assumption) | assumption)
    have q155 : x19_1 < (l1.length : Int) := of_decide_eq_true (by first | (with_reducible assumption) | assumption)
    obtain ⟨ad155, e155, hx155_0, hx155_1, hx155_2, hx155_3, hx155_4, hx155_5⟩ := at_T63 HR1.out x19_1 p155 q155
    cases e155
    replace hx155_0 := hup HB.out hx155_0
    replace hx155_1 := hup HB.out hx155_1
    replace hx155_2 := hup HB.out hx155_2
    replace hx155_3 := hup HB.out hx155_3
    replace hx155_4 := hup HB.out hx155_4
    replace hx155_5 := hup HB.out hx155_5
    replace p155 := eq_true p155
    replace q155 := eq_true q155
    try go_wp2_with (first | ((with_reducible refine gate_dst (N := 8) rfl ?_); refine box_event ?hg (N := 8) ?hd (cs := #[.int .i64 0, .string (⟨#[]⟩ : ByteArray), .int .i64 0, .bool false, .bool false, .bool false]) (t := 63) ?hr ?_; (case hd => rfl); (case hg => rfl); (case hr => first | (go_simp; done) | (go_simp; rfl)); intro gb156 hg w14 hbox hb; have n0_ := aS (below_step (by first | exact bel HB.out | exact HB.out) hb); have n1_ := aS (hbox); have n2_ := aS ((by rw [hg]; exact (below_size (by first | exact bel HB.out | exact HB.out)) : w.heap.size ≤ gb156)); have n3_ := aS ((by rw [hg]; exact (below_size (by first | exact bel HB.out | exact HB.out)) : w.heap.size ≤ gb156)); clear HB; have HB := n0_; have BK156 := n1_; have GW156 := n2_; have GE156 := n3_; clear n0_ n1_ n2_ n3_; clear hb hbox hg; have hcz15_0 : w14.cell? ⟨gb156, 0, none⟩ = some (.int .i64 0) := (blk_cell BK156.out 0).trans rfl; have hcz15_1 : w14.cell? ⟨gb156, 1, none⟩ = some (.string (⟨#[]⟩ : ByteArray)) := (blk_cell BK156.out 1).trans rfl; have hcz15_2 : w14.cell? ⟨gb156, 2, none⟩ = some (.int .i64 0) := (blk_cell BK156.out 2).trans rfl; have hcz15_3 : w14.cell? ⟨gb156, 3, none⟩ = some (.bool false) := (blk_cell BK156.out 3).trans rfl; have hcz15_4 : w14.cell? ⟨gb156, 4, none⟩ = some (.bool false) := (blk_cell BK156.out 4).trans rfl; have hcz15_5 : w14.cell? ⟨gb156, 5, none⟩ = some (.bool false) := (blk_cell BK156.out 5).trans rfl; have hfz15_0 := blk_frozen BK156.out 0; have hfz15_1 := blk_frozen BK156.out 1; have hfz15_2 := blk_frozen BK156.out 2; have hfz15_3 := blk_frozen BK156.out 3; have hfz15_4 := blk_frozen BK156.out 4; have hfz15_5 := blk_frozen BK156.out 5))
    have n0_ : Aside0 (((((((w14.setCell ⟨gb156, 0, none⟩ (.int .i64 ((rd_T63 l1 x19_1).f0))).setCell ⟨gb156, 1, none⟩ (.string ((rd_T63 l1 x19_1).f1.f0))).setCell ⟨gb156, 2, none⟩ (.int .i64 ((rd_T63 l1 x19_1).f1.f1))).setCell ⟨gb156, 3, none⟩ (.bool ((rd_T63 l1 x19_1).f1.f2))).setCell ⟨gb156, 4, none⟩ (.bool ((rd_T63 l1 x19_1).f1.f3))).setCell ⟨gb156, 5, none⟩ (.bool ((rd_T63 l1 x19_1).f1.f4))).heap[gb156]? = some (.cells #[.int .i64 ((rd_T63 l1 x19_1).f0), .string ((rd_T63 l1 x19_1).f1.f0), .int .i64 ((rd_T63 l1 x19_1).f1.f1), .bool ((rd_T63 l1 x19_1).f1.f2), .bool ((rd_T63 l1 x19_1).f1.f3), .bool ((rd_T63 l1 x19_1).f1.f4)] 63 (0, 0))) := ⟨by (with_reducible repeat (first | refine blk_drewN ?_ _ | refine blk_drew ?_ | refine blk_alloc ?_ _)); refine blk_put (cs := #[.int .i64 ((rd_T63 l1 x19_1).f0), .string ((rd_T63 l1 x19_1).f1.f0), .int .i64 ((rd_T63 l1 x19_1).f1.f1), .bool ((rd_T63 l1 x19_1).f1.f2), .bool ((rd_T63 l1 x19_1).f1.f3), .bool false]) ?_ 5 _ rfl; (with_reducible repeat (first | refine blk_drewN ?_ _ | refine blk_drew ?_ | refine blk_alloc ?_ _)); refine blk_put (cs := #[.int .i64 ((rd_T63 l1 x19_1).f0), .string ((rd_T63 l1 x19_1).f1.f0), .int .i64 ((rd_T63 l1 x19_1).f1.f1), .bool ((rd_T63 l1 x19_1).f1.f2), .bool false, .bool false]) ?_ 4 _ rfl; (with_reducible repeat (first | refine blk_drewN ?_ _ | refine blk_drew ?_ | refine blk_alloc ?_ _)); refine blk_put (cs := #[.int .i64 ((rd_T63 l1 x19_1).f0), .string ((rd_T63 l1 x19_1).f1.f0), .int .i64 ((rd_T63 l1 x19_1).f1.f1), .bool false, .bool false, .bool false]) ?_ 3 _ rfl; (with_reducible repeat (first | refine blk_drewN ?_ _ | refine blk_drew ?_ | refine blk_alloc ?_ _)); refine blk_put (cs := #[.int .i64 ((rd_T63 l1 x19_1).f0), .string ((rd_T63 l1 x19_1).f1.f0), .int .i64 0, .bool false, .bool false, .bool false]) ?_ 2 _ rfl; (with_reducible repeat (first | refine blk_drewN ?_ _ | refine blk_drew ?_ | refine blk_alloc ?_ _)); refine blk_put (cs := #[.int .i64 ((rd_T63 l1 x19_1).f0), .string (⟨#[]⟩ : ByteArray), .int .i64 0, .bool false, .bool false, .bool false]) ?_ 1 _ rfl; (with_reducible repeat (first | refine blk_drewN ?_ _ | refine blk_drew ?_ | refine blk_alloc ?_ _)); refine blk_put (cs := #[.int .i64 0, .string (⟨#[]⟩ : ByteArray), .int .i64 0, .bool false, .bool false, .bool false]) ?_ 0 _ rfl; (with_reducible repeat (first | refine blk_drewN ?_ _ | refine blk_drew ?_ | refine blk_alloc ?_ _)); exact BK156.out⟩
    have n1_ : Aside0 (Below w.heap.size w ((((((w14.setCell ⟨gb156, 0, none⟩ (.int .i64 ((rd_T63 l1 x19_1).f0))).setCell ⟨gb156, 1, none⟩ (.string ((rd_T63 l1 x19_1).f1.f0))).setCell ⟨gb156, 2, none⟩ (.int .i64 ((rd_T63 l1 x19_1).f1.f1))).setCell ⟨gb156, 3, none⟩ (.bool ((rd_T63 l1 x19_1).f1.f2))).setCell ⟨gb156, 4, none⟩ (.bool ((rd_T63 l1 x19_1).f1.f3))).setCell ⟨gb156, 5, none⟩ (.bool ((rd_T63 l1 x19_1).f1.f4)))) := ⟨by repeat (first | (with_reducible first | exact HB.out | apply bA | apply bN | apply bD | refine below_set ?_ GE156.out) | exact HB.out)⟩
    (try clear BK156)
    (try clear HB)
    generalize ((((((w14.setCell ⟨gb156, 0, none⟩ (.int .i64 ((rd_T63 l1 x19_1).f0))).setCell ⟨gb156, 1, none⟩ (.string ((rd_T63 l1 x19_1).f1.f0))).setCell ⟨gb156, 2, none⟩ (.int .i64 ((rd_T63 l1 x19_1).f1.f1))).setCell ⟨gb156, 3, none⟩ (.bool ((rd_T63 l1 x19_1).f1.f2))).setCell ⟨gb156, 4, none⟩ (.bool ((rd_T63 l1 x19_1).f1.f3))).setCell ⟨gb156, 5, none⟩ (.bool ((rd_T63 l1 x19_1).f1.f4))) = w16 at n0_ n1_ ⊢
    have BK156 := n0_
    have HB := n1_
    clear n0_ n1_
    have n0_ := aS (blk_drew BK156.out)
    have n1_ := aS (below_drew1 HB.out)
    clear BK156
    clear HB
    have BK156 := n0_
    have HB := n1_
    clear n0_ n1_
    refine start_ (n := 26) (S := fun w' => True) (ds := []) #[false, false, false, false, false, false, false, false, false, false, false, false, false, false, false, false, false, false, false, false, false, false, false, false, false, false] (by kernel_rfl) rfl rfl trivial (fun hHeld => ?_); refine with_tabW compare_fits.tab11 compare_fits.bits11 (fun HT_ HW_ => ?_)
    generalize w16.drew = w17 at BK156 HB hHeld ⊢
    refine pure_ (i := 0) (N := some 26) (v := ?_) (a' := ?_) (bs 26 1) rfl rfl (any_of HT_.out (by kernel_rfl)) (fun _ _ _ h => h) (Or.inl ⟨by rfl, ?_⟩) ?_ ?_
    rotate_left
    ·intro w'
     go_simp
     with_reducible rfl
    rotate_left
    ·simp only [Act.put, sA, sZ, sS, i64_w, i32_w]
     rfl
    refine pure_ (i := 1) (N := some 27) (v := ?_) (a' := ?_) (bs 26 3) rfl rfl (any_of HT_.out (by kernel_rfl)) (fun _ _ _ h => h) (Or.inl ⟨by rfl, ?_⟩) ?_ ?_
    rotate_left
    ·intro w'
     go_simp
     with_reducible rfl
    rotate_left
    ·simp only [Act.put, sA, sZ, sS, i64_w, i32_w]
     rfl
    refine pure_ (i := 2) (N := some 28) (v := ?_) (a' := ?_) (bs 26 7) rfl rfl (any_of HT_.out (by kernel_rfl)) (fun _ _ _ h => h) (Or.inl ⟨by rfl, ?_⟩) ?_ ?_
    rotate_left
    ·intro w'
     go_simp
     with_reducible rfl
    rotate_left
    ·simp only [Act.put, sA, sZ, sS, i64_w, i32_w]
     rfl
    refine pure_ (i := 3) (N := some 29) (v := ?_) (a' := ?_) (bs 26 15) rfl rfl (any_of HT_.out (by kernel_rfl)) (fun _ _ _ h => h) (Or.inl ⟨by rfl, ?_⟩) ?_ ?_
    rotate_left
    ·intro w'
     go_simp
     with_reducible rfl
    rotate_left
    ·simp only [Act.put, sA, sZ, sS, i64_w, i32_w]
     rfl
    refine pure_ (i := 4) (N := some 30) (v := ?_) (a' := ?_) (bs 26 31) rfl rfl (any_of HT_.out (by kernel_rfl)) (fun _ _ _ h => h) (Or.inl ⟨by rfl, ?_⟩) ?_ ?_
    rotate_left
    ·intro w'
     go_simp
     with_reducible rfl
    rotate_left
    ·simp only [Act.put, sA, sZ, sS, i64_w, i32_w]
     rfl
    refine pure_ (i := 5) (N := some 31) (v := undef) (a' := ?_) (bs 26 63) rfl rfl (any_of HT_.out (by kernel_rfl)) (fun _ _ _ h => h) (Or.inr ⟨by rfl, rfl⟩) ?_ ?_
    rotate_left
    ·simp only [Act.put, sA, sZ, sS, i64_w, i32_w]
     rfl
    refine pure_ (i := 6) (N := some 32) (v := undef) (a' := ?_) (bs 26 127) rfl rfl (any_of HT_.out (by kernel_rfl)) (fun _ _ _ h => h) (Or.inr ⟨by rfl, rfl⟩) ?_ ?_
    rotate_left
    ·simp only [Act.put, sA, sZ, sS, i64_w, i32_w]
     rfl
    refine pure_ (i := 7) (N := some 33) (v := undef) (a' := ?_) (bs 26 255) rfl rfl (any_of HT_.out (by kernel_rfl)) (fun _ _ _ h => h) (Or.inr ⟨by rfl, rfl⟩) ?_ ?_
    rotate_left
    ·simp only [Act.put, sA, sZ, sS, i64_w, i32_w]
     rfl
    refine pure_ (i := 8) (N := some 34) (v := undef) (a' := ?_) (bs 26 511) rfl rfl (any_of HT_.out (by kernel_rfl)) (fun _ _ _ h => h) (Or.inr ⟨by rfl, rfl⟩) ?_ ?_
    rotate_left
    ·simp only [Act.put, sA, sZ, sS, i64_w, i32_w]
     rfl
    refine pure_ (i := 9) (N := some 35) (v := undef) (a' := ?_) (bs 26 1023) rfl rfl (any_of HT_.out (by kernel_rfl)) (fun _ _ _ h => h) (Or.inr ⟨by rfl, rfl⟩) ?_ ?_
    rotate_left
    ·simp only [Act.put, sA, sZ, sS, i64_w, i32_w]
     rfl
    refine pure_ (i := 10) (N := some 36) (v := undef) (a' := ?_) (bs 26 2047) rfl rfl (any_of HT_.out (by kernel_rfl)) (fun _ _ _ h => h) (Or.inr ⟨by rfl, rfl⟩) ?_ ?_
    rotate_left
    ·simp only [Act.put, sA, sZ, sS, i64_w, i32_w]
     rfl
    refine pure_ (i := 11) (N := some 37) (v := undef) (a' := ?_) (bs 26 4095) rfl rfl (any_of HT_.out (by kernel_rfl)) (fun _ _ _ h => h) (Or.inr ⟨by rfl, rfl⟩) ?_ ?_
    rotate_left
    ·simp only [Act.put, sA, sZ, sS, i64_w, i32_w]
     rfl
    refine pure_ (i := 12) (N := some 38) (v := undef) (a' := ?_) (bs 26 8191) rfl rfl (any_of HT_.out (by kernel_rfl)) (fun _ _ _ h => h) (Or.inr ⟨by rfl, rfl⟩) ?_ ?_
    rotate_left
    ·simp only [Act.put, sA, sZ, sS, i64_w, i32_w]
     rfl
    refine pure_ (i := 13) (N := some 39) (v := undef) (a' := ?_) (bs 26 16383) rfl rfl (any_of HT_.out (by kernel_rfl)) (fun _ _ _ h => h) (Or.inr ⟨by rfl, rfl⟩) ?_ ?_
    rotate_left
    ·simp only [Act.put, sA, sZ, sS, i64_w, i32_w]
     rfl
    refine pure_ (i := 14) (N := some 40) (v := undef) (a' := ?_) (bs 26 32767) rfl rfl (any_of HT_.out (by kernel_rfl)) (fun _ _ _ h => h) (Or.inr ⟨by rfl, rfl⟩) ?_ ?_
    rotate_left
    ·simp only [Act.put, sA, sZ, sS, i64_w, i32_w]
     rfl
    refine pure_ (i := 15) (N := some 41) (v := undef) (a' := ?_) (bs 26 65535) rfl rfl (any_of HT_.out (by kernel_rfl)) (fun _ _ _ h => h) (Or.inr ⟨by rfl, rfl⟩) ?_ ?_
    rotate_left
    ·simp only [Act.put, sA, sZ, sS, i64_w, i32_w]
     rfl
    refine pure_ (i := 16) (N := some 42) (v := undef) (a' := ?_) (bs 26 131071) rfl rfl (any_of HT_.out (by kernel_rfl)) (fun _ _ _ h => h) (Or.inr ⟨by rfl, rfl⟩) ?_ ?_
    rotate_left
    ·simp only [Act.put, sA, sZ, sS, i64_w, i32_w]
     rfl
    refine pure_ (i := 17) (N := some 43) (v := undef) (a' := ?_) (bs 26 262143) rfl rfl (any_of HT_.out (by kernel_rfl)) (fun _ _ _ h => h) (Or.inr ⟨by rfl, rfl⟩) ?_ ?_
    rotate_left
    ·simp only [Act.put, sA, sZ, sS, i64_w, i32_w]
     rfl
    refine pure_ (i := 18) (N := some 44) (v := undef) (a' := ?_) (bs 26 524287) rfl rfl (any_of HT_.out (by kernel_rfl)) (fun _ _ _ h => h) (Or.inr ⟨by rfl, rfl⟩) ?_ ?_
    rotate_left
    ·simp only [Act.put, sA, sZ, sS, i64_w, i32_w]
     rfl
    refine pure_ (i := 19) (N := some 45) (v := undef) (a' := ?_) (bs 26 1048575) rfl rfl (any_of HT_.out (by kernel_rfl)) (fun _ _ _ h => h) (Or.inr ⟨by rfl, rfl⟩) ?_ ?_
    rotate_left
    ·simp only [Act.put, sA, sZ, sS, i64_w, i32_w]
     rfl
    refine pure_ (i := 20) (N := some 46) (v := undef) (a' := ?_) (bs 26 2097151) rfl rfl (any_of HT_.out (by kernel_rfl)) (fun _ _ _ h => h) (Or.inr ⟨by rfl, rfl⟩) ?_ ?_
    rotate_left
    ·simp only [Act.put, sA, sZ, sS, i64_w, i32_w]
     rfl
    refine pure_ (i := 21) (N := some 47) (v := undef) (a' := ?_) (bs 26 4194303) rfl rfl (any_of HT_.out (by kernel_rfl)) (fun _ _ _ h => h) (Or.inr ⟨by rfl, rfl⟩) ?_ ?_
    rotate_left
    ·simp only [Act.put, sA, sZ, sS, i64_w, i32_w]
     rfl
    refine pure_ (i := 22) (N := some 48) (v := undef) (a' := ?_) (bs 26 8388607) rfl rfl (any_of HT_.out (by kernel_rfl)) (fun _ _ _ h => h) (Or.inr ⟨by rfl, rfl⟩) ?_ ?_
    rotate_left
    ·simp only [Act.put, sA, sZ, sS, i64_w, i32_w]
     rfl
    refine pure_ (i := 23) (N := some 49) (v := undef) (a' := ?_) (bs 26 16777215) rfl rfl (any_of HT_.out (by kernel_rfl)) (fun _ _ _ h => h) (Or.inr ⟨by rfl, rfl⟩) ?_ ?_
    rotate_left
    ·simp only [Act.put, sA, sZ, sS, i64_w, i32_w]
     rfl
    refine pure_ (i := 24) (N := some 50) (v := undef) (a' := ?_) (bs 26 33554431) rfl rfl (any_of HT_.out (by kernel_rfl)) (fun _ _ _ h => h) (Or.inr ⟨by rfl, rfl⟩) ?_ ?_
    rotate_left
    ·simp only [Act.put, sA, sZ, sS, i64_w, i32_w]
     rfl
    refine pure_ (i := 25) (N := some 51) (v := ?_) (a' := ?_) (bs 26 67108863) rfl rfl (any_of HT_.out (by kernel_rfl)) (fun _ _ _ h => h) (Or.inl ⟨by rfl, ?_⟩) ?_ ?_
    rotate_left
    ·intro w'
     go_simp
     with_reducible rfl
    rotate_left
    ·simp only [Act.put, sA, sZ, sS, i64_w, i32_w]
     rfl
    refine done_ (done_of HT_.out (by kernel_rfl)) ?_
    try go_wp2
    go_ret
    exact ⟨by first | rfl | (simp [errW_none, errW_some] <;> rfl) | (simp [*, errW_none, errW_some] <;> rfl), by repeat (first | (with_reducible first | exact HB.out | apply bA | apply bN | apply bD | refine below_set ?_ GE156.out) | exact HB.out)⟩
   rw [if_neg c13] at H
   have c13b0 : (x6_1 == (l0.length : Int)) = false := beq_eq_false_iff_ne.mpr c13
   have c13b1 : (x6_1 != (l0.length : Int)) = true := bne_iff_ne.mpr c13
   by_cases c18 : ((rd_T63 l1 x19_1).f0) = 2
   ·rw [if_pos c18] at H
    have c18b0 : (((rd_T63 l1 x19_1).f0) == 2) = true := beq_iff_eq.mpr c18
    have c18b1 : (((rd_T63 l1 x19_1).f0) != 2) = false := bne_eq_false_iff_eq.mpr c18
    clear c18
    by_cases c19 : 0 ≤ x6_1
    rotate_left
    ·rw [if_neg c19] at H
     exact absurd H (by simp)
    rw [if_pos c19] at H
    have c19b0 : decide (0 ≤ x6_1) = true := decide_eq_true c19
    clear c19
    by_cases c20 : x6_1 < (l0.length : Int)
    rotate_left
    ·rw [if_neg c20] at H
     exact absurd H (by simp)
    rw [if_pos c20] at H
    have c20b0 : decide (x6_1 < (l0.length : Int)) = true := decide_eq_true c20
    clear c20
    replace H := Option.bind_eq_some_iff.mp H
    obtain ⟨t158, A210, H⟩ := H
    replace H : (if t158 = ((rd_T63 l1 x19_1).f0) then (compare_fits.l0 k1 l0 (wrap64 (x6_1 + 1)) l1 (l1.length : Int) (wrap64 (x19_1 + 1))) else (some 7)) = some r := H
    have A21 := aS A210
    clear A210
    by_cases c22 : t158 = ((rd_T63 l1 x19_1).f0)
    rotate_left
    ·rw [if_neg c22] at H
     have c22b0 : (t158 == ((rd_T63 l1 x19_1).f0)) = false := beq_eq_false_iff_ne.mpr c22
     have c22b1 : (t158 != ((rd_T63 l1 x19_1).f0)) = true := bne_iff_ne.mpr c22
     obtain rfl := Option.some.inj H
     have p155 : 0 ≤ (x19_1 : Int) := of_decide_eq_true (by first | (with_reducible assumption) | assumption)
     have q155 : x19_1 < (l1.length : Int) := of_decide_eq_true (by first | (with_reducible assumption) | assumption)
     obtain ⟨ad155, e155, hx155_0, hx155_1, hx155_2, hx155_3, hx155_4, hx155_5⟩ := at_T63 HR1.out x19_1 p155 q155
     cases e155
     replace hx155_0 := hup HB.out hx155_0
     replace hx155_1 := hup HB.out hx155_1
     replace hx155_2 := hup HB.out hx155_2
     replace hx155_3 := hup HB.out hx155_3
     replace hx155_4 := hup HB.out hx155_4
     replace hx155_5 := hup HB.out hx155_5
     replace p155 := eq_true p155
     replace q155 := eq_true q155
     try go_wp2_with (first | ((with_reducible refine gate_dst (N := 8) rfl ?_); refine box_event ?hg (N := 8) ?hd (cs := #[.int .i64 0, .string (⟨#[]⟩ : ByteArray), .int .i64 0, .bool false, .bool false, .bool false]) (t := 63) ?hr ?_; (case hd => rfl); (case hg => rfl); (case hr => first | (go_simp; done) | (go_simp; rfl)); intro gb156 hg w28 hbox hb; have n0_ := aS (below_step (by first | exact bel HB.out | exact HB.out) hb); have n1_ := aS (hbox); have n2_ := aS ((by rw [hg]; exact (below_size (by first | exact bel HB.out | exact HB.out)) : w.heap.size ≤ gb156)); have n3_ := aS ((by rw [hg]; exact (below_size (by first | exact bel HB.out | exact HB.out)) : w.heap.size ≤ gb156)); clear HB; have HB := n0_; have BK156 := n1_; have GW156 := n2_; have GE156 := n3_; clear n0_ n1_ n2_ n3_; clear hb hbox hg; have hcz29_0 : w28.cell? ⟨gb156, 0, none⟩ = some (.int .i64 0) := (blk_cell BK156.out 0).trans rfl; have hcz29_1 : w28.cell? ⟨gb156, 1, none⟩ = some (.string (⟨#[]⟩ : ByteArray)) := (blk_cell BK156.out 1).trans rfl; have hcz29_2 : w28.cell? ⟨gb156, 2, none⟩ = some (.int .i64 0) := (blk_cell BK156.out 2).trans rfl; have hcz29_3 : w28.cell? ⟨gb156, 3, none⟩ = some (.bool false) := (blk_cell BK156.out 3).trans rfl; have hcz29_4 : w28.cell? ⟨gb156, 4, none⟩ = some (.bool false) := (blk_cell BK156.out 4).trans rfl; have hcz29_5 : w28.cell? ⟨gb156, 5, none⟩ = some (.bool false) := (blk_cell BK156.out 5).trans rfl; have hfz29_0 := blk_frozen BK156.out 0; have hfz29_1 := blk_frozen BK156.out 1; have hfz29_2 := blk_frozen BK156.out 2; have hfz29_3 := blk_frozen BK156.out 3; have hfz29_4 := blk_frozen BK156.out 4; have hfz29_5 := blk_frozen BK156.out 5))
     have n0_ : Aside0 (((((((w28.setCell ⟨gb156, 0, none⟩ (.int .i64 ((rd_T63 l1 x19_1).f0))).setCell ⟨gb156, 1, none⟩ (.string ((rd_T63 l1 x19_1).f1.f0))).setCell ⟨gb156, 2, none⟩ (.int .i64 ((rd_T63 l1 x19_1).f1.f1))).setCell ⟨gb156, 3, none⟩ (.bool ((rd_T63 l1 x19_1).f1.f2))).setCell ⟨gb156, 4, none⟩ (.bool ((rd_T63 l1 x19_1).f1.f3))).setCell ⟨gb156, 5, none⟩ (.bool ((rd_T63 l1 x19_1).f1.f4))).heap[gb156]? = some (.cells #[.int .i64 ((rd_T63 l1 x19_1).f0), .string ((rd_T63 l1 x19_1).f1.f0), .int .i64 ((rd_T63 l1 x19_1).f1.f1), .bool ((rd_T63 l1 x19_1).f1.f2), .bool ((rd_T63 l1 x19_1).f1.f3), .bool ((rd_T63 l1 x19_1).f1.f4)] 63 (0, 0))) := ⟨by (with_reducible repeat (first | refine blk_drewN ?_ _ | refine blk_drew ?_ | refine blk_alloc ?_ _)); refine blk_put (cs := #[.int .i64 ((rd_T63 l1 x19_1).f0), .string ((rd_T63 l1 x19_1).f1.f0), .int .i64 ((rd_T63 l1 x19_1).f1.f1), .bool ((rd_T63 l1 x19_1).f1.f2), .bool ((rd_T63 l1 x19_1).f1.f3), .bool false]) ?_ 5 _ rfl; (with_reducible repeat (first | refine blk_drewN ?_ _ | refine blk_drew ?_ | refine blk_alloc ?_ _)); refine blk_put (cs := #[.int .i64 ((rd_T63 l1 x19_1).f0), .string ((rd_T63 l1 x19_1).f1.f0), .int .i64 ((rd_T63 l1 x19_1).f1.f1), .bool ((rd_T63 l1 x19_1).f1.f2), .bool false, .bool false]) ?_ 4 _ rfl; (with_reducible repeat (first | refine blk_drewN ?_ _ | refine blk_drew ?_ | refine blk_alloc ?_ _)); refine blk_put (cs := #[.int .i64 ((rd_T63 l1 x19_1).f0), .string ((rd_T63 l1 x19_1).f1.f0), .int .i64 ((rd_T63 l1 x19_1).f1.f1), .bool false, .bool false, .bool false]) ?_ 3 _ rfl; (with_reducible repeat (first | refine blk_drewN ?_ _ | refine blk_drew ?_ | refine blk_alloc ?_ _)); refine blk_put (cs := #[.int .i64 ((rd_T63 l1 x19_1).f0), .string ((rd_T63 l1 x19_1).f1.f0), .int .i64 0, .bool false, .bool false, .bool false]) ?_ 2 _ rfl; (with_reducible repeat (first | refine blk_drewN ?_ _ | refine blk_drew ?_ | refine blk_alloc ?_ _)); refine blk_put (cs := #[.int .i64 ((rd_T63 l1 x19_1).f0), .string (⟨#[]⟩ : ByteArray), .int .i64 0, .bool false, .bool false, .bool false]) ?_ 1 _ rfl; (with_reducible repeat (first | refine blk_drewN ?_ _ | refine blk_drew ?_ | refine blk_alloc ?_ _)); refine blk_put (cs := #[.int .i64 0, .string (⟨#[]⟩ : ByteArray), .int .i64 0, .bool false, .bool false, .bool false]) ?_ 0 _ rfl; (with_reducible repeat (first | refine blk_drewN ?_ _ | refine blk_drew ?_ | refine blk_alloc ?_ _)); exact BK156.out⟩
     have n1_ : Aside0 (Below w.heap.size w ((((((w28.setCell ⟨gb156, 0, none⟩ (.int .i64 ((rd_T63 l1 x19_1).f0))).setCell ⟨gb156, 1, none⟩ (.string ((rd_T63 l1 x19_1).f1.f0))).setCell ⟨gb156, 2, none⟩ (.int .i64 ((rd_T63 l1 x19_1).f1.f1))).setCell ⟨gb156, 3, none⟩ (.bool ((rd_T63 l1 x19_1).f1.f2))).setCell ⟨gb156, 4, none⟩ (.bool ((rd_T63 l1 x19_1).f1.f3))).setCell ⟨gb156, 5, none⟩ (.bool ((rd_T63 l1 x19_1).f1.f4)))) := ⟨by repeat (first | (with_reducible first | exact HB.out | apply bA | apply bN | apply bD | refine below_set ?_ GE156.out) | exact HB.out)⟩
     (try clear BK156)
     (try clear HB)
     generalize ((((((w28.setCell ⟨gb156, 0, none⟩ (.int .i64 ((rd_T63 l1 x19_1).f0))).setCell ⟨gb156, 1, none⟩ (.string ((rd_T63 l1 x19_1).f1.f0))).setCell ⟨gb156, 2, none⟩ (.int .i64 ((rd_T63 l1 x19_1).f1.f1))).setCell ⟨gb156, 3, none⟩ (.bool ((rd_T63 l1 x19_1).f1.f2))).setCell ⟨gb156, 4, none⟩ (.bool ((rd_T63 l1 x19_1).f1.f3))).setCell ⟨gb156, 5, none⟩ (.bool ((rd_T63 l1 x19_1).f1.f4))) = w30 at n0_ n1_ ⊢
     have BK156 := n0_
     have HB := n1_
     clear n0_ n1_
     have n0_ := aS (blk_drew BK156.out)
     have n1_ := aS (below_drew1 HB.out)
     clear BK156
     clear HB
     have BK156 := n0_
     have HB := n1_
     clear n0_ n1_
     have p157 : 0 ≤ (x6_1 : Int) := of_decide_eq_true (by first | (with_reducible assumption) | assumption)
     have q157 : x6_1 < (l0.length : Int) := of_decide_eq_true (by first | (with_reducible assumption) | assumption)
     obtain ⟨ad157, e157, hx157_0, hx157_1, hx157_2, hx157_3, hx157_4⟩ := at_T50 HR0.out x6_1 p157 q157
     have hw157_4 := hx157_4
     have hw157_3 := hx157_3
     have hw157_2 := hx157_2
     have hw157_1 := hx157_1
     have hw157_0 := hx157_0
     cases e157
     replace hx157_0 := hup HB.out hx157_0
     replace hx157_1 := hup HB.out hx157_1
     replace hx157_2 := hup HB.out hx157_2
     replace hx157_3 := hup HB.out hx157_3
     replace hx157_4 := hup HB.out hx157_4
     replace p157 := eq_true p157
     replace q157 := eq_true q157
     refine start_ (n := 26) (S := fun w' => w'.cell? ⟨gb156, 0, none⟩ = some (.int .i64 ((rd_T63 l1 x19_1).f0)) ∧ w'.cell? ⟨gb156, 1, none⟩ = some (.string ((rd_T63 l1 x19_1).f1.f0)) ∧ w'.cell? ⟨gb156, 2, none⟩ = some (.int .i64 ((rd_T63 l1 x19_1).f1.f1)) ∧ w'.cell? ⟨gb156, 3, none⟩ = some (.bool ((rd_T63 l1 x19_1).f1.f2)) ∧ w'.cell? ⟨gb156, 4, none⟩ = some (.bool ((rd_T63 l1 x19_1).f1.f3)) ∧ w'.cell? ⟨gb156, 5, none⟩ = some (.bool ((rd_T63 l1 x19_1).f1.f4)) ∧ w'.cell? (ad157.add ((x6_1).toNat * 5)) = some (.string ((rd_T50 l0 x6_1).f0)) ∧ w'.cell? ⟨(ad157.add ((x6_1).toNat * 5)).block, (ad157.add ((x6_1).toNat * 5)).off + 1, none⟩ = some (.int .i64 ((rd_T50 l0 x6_1).f1)) ∧ w'.cell? ⟨(ad157.add ((x6_1).toNat * 5)).block, (ad157.add ((x6_1).toNat * 5)).off + 2, none⟩ = some (.bool ((rd_T50 l0 x6_1).f2)) ∧ w'.cell? ⟨(ad157.add ((x6_1).toNat * 5)).block, (ad157.add ((x6_1).toNat * 5)).off + 3, none⟩ = some (.bool ((rd_T50 l0 x6_1).f3)) ∧ w'.cell? ⟨(ad157.add ((x6_1).toNat * 5)).block, (ad157.add ((x6_1).toNat * 5)).off + 4, none⟩ = some (.bool ((rd_T50 l0 x6_1).f4))) (ds := []) #[false, false, false, false, false, false, false, false, false, false, false, false, false, false, false, false, false, false, false, false, false, false, false, false, false, false] (by kernel_rfl) rfl rfl ⟨(blk_cell BK156.out 0).trans rfl, (blk_cell BK156.out 1).trans rfl, (blk_cell BK156.out 2).trans rfl, (blk_cell BK156.out 3).trans rfl, (blk_cell BK156.out 4).trans rfl, (blk_cell BK156.out 5).trans rfl, (hup HB.out hw157_0), (hup HB.out hw157_1), (hup HB.out hw157_2), (hup HB.out hw157_3), (hup HB.out hw157_4)⟩ (fun hHeld => ?_); refine with_tabW compare_fits.tab11 compare_fits.bits11 (fun HT_ HW_ => ?_)
     generalize w30.drew = w31 at BK156 HB hx157_0 hx157_1 hx157_2 hx157_3 hx157_4 hHeld ⊢
     refine pure_ (i := 0) (N := some 26) (v := ?_) (a' := ?_) (bs 26 1) rfl rfl (any_of HT_.out (by kernel_rfl)) (fun _ _ _ h => h) (Or.inl ⟨by rfl, ?_⟩) ?_ ?_
     rotate_left
     ·intro w'
      go_simp
      with_reducible rfl
     rotate_left
     ·simp only [Act.put, sA, sZ, sS, i64_w, i32_w]
      rfl
     refine pure_ (i := 1) (N := some 27) (v := ?_) (a' := ?_) (bs 26 3) rfl rfl (any_of HT_.out (by kernel_rfl)) (fun _ _ _ h => h) (Or.inl ⟨by rfl, ?_⟩) ?_ ?_
     rotate_left
     ·intro w'
      go_simp
      with_reducible rfl
     rotate_left
     ·simp only [Act.put, sA, sZ, sS, i64_w, i32_w]
      rfl
     refine pure_ (i := 2) (N := some 28) (v := ?_) (a' := ?_) (bs 26 7) rfl rfl (any_of HT_.out (by kernel_rfl)) (fun _ _ _ h => h) (Or.inl ⟨by rfl, ?_⟩) ?_ ?_
     rotate_left
     ·intro w'
      go_simp
      with_reducible rfl
     rotate_left
     ·simp only [Act.put, sA, sZ, sS, i64_w, i32_w]
      rfl
     refine pure_ (i := 3) (N := some 29) (v := ?_) (a' := ?_) (bs 26 15) rfl rfl (any_of HT_.out (by kernel_rfl)) (fun _ _ _ h => h) (Or.inl ⟨by rfl, ?_⟩) ?_ ?_
     rotate_left
     ·intro w'
      go_simp
      with_reducible rfl
     rotate_left
     ·simp only [Act.put, sA, sZ, sS, i64_w, i32_w]
      rfl
     refine pure_ (i := 4) (N := some 30) (v := ?_) (a' := ?_) (bs 26 31) rfl rfl (any_of HT_.out (by kernel_rfl)) (fun _ _ _ h => h) (Or.inl ⟨by rfl, ?_⟩) ?_ ?_
     rotate_left
     ·intro w'
      go_simp
      with_reducible rfl
     rotate_left
     ·simp only [Act.put, sA, sZ, sS, i64_w, i32_w]
      rfl
     refine pure_ (i := 5) (N := some 31) (v := ?_) (a' := ?_) (bs 26 63) rfl rfl (any_of HT_.out (by kernel_rfl)) (fun _ _ _ h => h) (Or.inl ⟨by rfl, ?_⟩) ?_ ?_
     rotate_left
     ·intro w'
      go_simp
      with_reducible rfl
     rotate_left
     ·simp only [Act.put, sA, sZ, sS, i64_w, i32_w]
      rfl
     refine take_ (i := 6) (N := some 32) (v := ?_) (a' := ?_) (bs 26 127) rfl rfl (take_ofW HT_.out HW_.out (by kernel_rfl)) (fun _ _ _ h => h) (Or.inl ⟨by rfl, ?_⟩) hHeld ?_ ?_
     rotate_left
     ·rintro w' ⟨s0, s1, s2, s3, s4, s5, s6, s7, s8, s9, s10⟩
      go_simp
      with_reducible rfl
     rotate_left
     ·simp only [Act.put, sA, sZ, sS, i64_w, i32_w]
      rfl
     refine pure_ (i := 7) (N := some 33) (v := ?_) (a' := ?_) (bs 26 255) rfl rfl (any_of HT_.out (by kernel_rfl)) (fun _ _ _ h => h) (Or.inl ⟨by rfl, ?_⟩) ?_ ?_
     rotate_left
     ·intro w'
      go_simp
      with_reducible rfl
     rotate_left
     ·simp only [Act.put, sA, sZ, sS, i64_w, i32_w]
      rfl
     refine pure_ (i := 8) (N := some 34) (v := ?_) (a' := ?_) (bs 26 511) rfl rfl (any_of HT_.out (by kernel_rfl)) (fun _ _ _ h => h) (Or.inl ⟨by rfl, ?_⟩) ?_ ?_
     rotate_left
     ·intro w'
      go_simp
      with_reducible rfl
     rotate_left
     ·simp only [Act.put, sA, sZ, sS, i64_w, i32_w]
      rfl
     refine pure_ (i := 9) (N := some 35) (v := undef) (a' := ?_) (bs 26 1023) rfl rfl (any_of HT_.out (by kernel_rfl)) (fun _ _ _ h => h) (Or.inr ⟨by rfl, rfl⟩) ?_ ?_
     rotate_left
     ·simp only [Act.put, sA, sZ, sS, i64_w, i32_w]
      rfl
     refine pure_ (i := 10) (N := some 36) (v := undef) (a' := ?_) (bs 26 2047) rfl rfl (any_of HT_.out (by kernel_rfl)) (fun _ _ _ h => h) (Or.inr ⟨by rfl, rfl⟩) ?_ ?_
     rotate_left
     ·simp only [Act.put, sA, sZ, sS, i64_w, i32_w]
      rfl
     refine pure_ (i := 11) (N := some 37) (v := undef) (a' := ?_) (bs 26 4095) rfl rfl (any_of HT_.out (by kernel_rfl)) (fun _ _ _ h => h) (Or.inr ⟨by rfl, rfl⟩) ?_ ?_
     rotate_left
     ·simp only [Act.put, sA, sZ, sS, i64_w, i32_w]
      rfl
     refine pure_ (i := 12) (N := some 38) (v := ?_) (a' := ?_) (bs 26 8191) rfl rfl (any_of HT_.out (by kernel_rfl)) (fun _ _ _ h => h) (Or.inl ⟨by rfl, ?_⟩) ?_ ?_
     rotate_left
     ·intro w'
      go_simp
      with_reducible rfl
     rotate_left
     ·simp only [Act.put, sA, sZ, sS, i64_w, i32_w]
      rfl
     refine pure_ (i := 13) (N := some 39) (v := ?_) (a' := ?_) (bs 26 16383) rfl rfl (any_of HT_.out (by kernel_rfl)) (fun _ _ _ h => h) (Or.inl ⟨by rfl, ?_⟩) ?_ ?_
     rotate_left
     ·intro w'
      go_simp
      with_reducible rfl
     rotate_left
     ·simp only [Act.put, sA, sZ, sS, i64_w, i32_w]
      rfl
     refine pure_ (i := 14) (N := some 40) (v := ?_) (a' := ?_) (bs 26 32767) rfl rfl (any_of HT_.out (by kernel_rfl)) (fun _ _ _ h => h) (Or.inl ⟨by rfl, ?_⟩) ?_ ?_
     rotate_left
     ·intro w'
      go_simp
      with_reducible rfl
     rotate_left
     ·simp only [Act.put, sA, sZ, sS, i64_w, i32_w]
      rfl
     refine pure_ (i := 15) (N := some 41) (v := ?_) (a' := ?_) (bs 26 65535) rfl rfl (any_of HT_.out (by kernel_rfl)) (fun _ _ _ h => h) (Or.inl ⟨by rfl, ?_⟩) ?_ ?_
     rotate_left
     ·intro w'
      go_simp
      with_reducible rfl
     rotate_left
     ·simp only [Act.put, sA, sZ, sS, i64_w, i32_w]
      rfl
     refine pure_ (i := 16) (N := some 42) (v := ?_) (a' := ?_) (bs 26 131071) rfl rfl (any_of HT_.out (by kernel_rfl)) (fun _ _ _ h => h) (Or.inl ⟨by rfl, ?_⟩) ?_ ?_
     rotate_left
     ·intro w'
      go_simp
      with_reducible rfl
     rotate_left
     ·simp only [Act.put, sA, sZ, sS, i64_w, i32_w]
      rfl
     refine pure_ (i := 18) (N := some 44) (v := ?_) (a' := ?_) (bs 26 393215) rfl rfl (any_of HT_.out (by kernel_rfl)) (fun _ _ _ h => h) (Or.inl ⟨by rfl, ?_⟩) ?_ ?_
     rotate_left
     ·intro w'
      go_simp
      with_reducible rfl
     rotate_left
     ·simp only [Act.put, sA, sZ, sS, i64_w, i32_w]
      rfl
     refine pure_ (i := 21) (N := some 47) (v := ?_) (a' := ?_) (bs 26 2490367) rfl rfl (any_of HT_.out (by kernel_rfl)) (fun _ _ _ h => h) (Or.inl ⟨by rfl, ?_⟩) ?_ ?_
     rotate_left
     ·intro w'
      go_simp
      with_reducible rfl
     rotate_left
     ·simp only [Act.put, sA, sZ, sS, i64_w, i32_w]
      rfl
     refine take_ (i := 17) (N := some 43) (v := ?_) (a' := ?_) (bs 26 2621439) rfl rfl (take_ofW HT_.out HW_.out (by kernel_rfl)) (fun _ _ _ h => h) (Or.inl ⟨by rfl, ?_⟩) hHeld ?_ ?_
     rotate_left
     ·rintro w' ⟨s0, s1, s2, s3, s4, s5, s6, s7, s8, s9, s10⟩
      go_simp
      with_reducible rfl
     rotate_left
     ·simp only [Act.put, sA, sZ, sS, i64_w, i32_w]
      rfl
     refine take_ (i := 19) (N := some 45) (v := ?_) (a' := ?_) (bs 26 3145727) rfl rfl (take_ofW HT_.out HW_.out (by kernel_rfl)) (fun _ _ _ h => h) (Or.inl ⟨by rfl, ?_⟩) hHeld ?_ ?_
     rotate_left
     ·rintro w' ⟨s0, s1, s2, s3, s4, s5, s6, s7, s8, s9, s10⟩
      go_simp
      with_reducible rfl
     rotate_left
     ·simp only [Act.put, sA, sZ, sS, i64_w, i32_w]
      rfl
     refine take_ (i := 22) (N := some 48) (v := ?_) (a' := ?_) (bs 26 7340031) rfl rfl (take_ofW HT_.out HW_.out (by kernel_rfl)) (fun _ _ _ h => h) (Or.inl ⟨by rfl, ?_⟩) hHeld ?_ ?_
     rotate_left
     ·rintro w' ⟨s0, s1, s2, s3, s4, s5, s6, s7, s8, s9, s10⟩
      go_simp
      with_reducible rfl
     rotate_left
     ·simp only [Act.put, sA, sZ, sS, i64_w, i32_w]
      rfl
     refine one_ (i := 20) (N := some 46) (bs 26 8388607) rfl rfl (one_of HT_.out (by kernel_rfl)) (by decide) (fun K hK => ?_)
     refine goes_ Try.func35 (by kernel_rfl) rfl #[.agg #[.string ((rd_T50 l0 x6_1).f0), .int .i64 ((rd_T50 l0 x6_1).f1), .bool ((rd_T50 l0 x6_1).f2), .bool ((rd_T50 l0 x6_1).f3), .bool ((rd_T50 l0 x6_1).f4)], .agg #[.string ((rd_T63 l1 x19_1).f1.f0), .int .i64 ((rd_T63 l1 x19_1).f1.f1), .bool ((rd_T63 l1 x19_1).f1.f2), .bool ((rd_T63 l1 x19_1).f1.f3), .bool ((rd_T63 l1 x19_1).f1.f4)]] (by rfl) rfl rfl (by (try simp only [List.map_toArray, List.map_cons, List.map_nil]); first | done | rfl | (simp only [List.length_drop, List.length_take]; rfl)) ?_
     with_reducible refine (compare_taking.calls ((rd_T50 l0 x6_1).f0) ((rd_T50 l0 x6_1).f1) ((rd_T50 l0 x6_1).f2) ((rd_T50 l0 x6_1).f3) ((rd_T50 l0 x6_1).f4) ((rd_T63 l1 x19_1).f1.f0) ((rd_T63 l1 x19_1).f1.f1) ((rd_T63 l1 x19_1).f1.f2) ((rd_T63 l1 x19_1).f1.f3) ((rd_T63 l1 x19_1).f1.f4) t158 _ A21.out).mono ?_
     rintro e w32 ⟨rfl, hb⟩
     refine ⟨_, rfl, ?_⟩
     have n0_ := aS (blk_below (g := gb156) (o := .cells #[.int .i64 ((rd_T63 l1 x19_1).f0), .string ((rd_T63 l1 x19_1).f1.f0), .int .i64 ((rd_T63 l1 x19_1).f1.f1), .bool ((rd_T63 l1 x19_1).f1.f2), .bool ((rd_T63 l1 x19_1).f1.f3), .bool ((rd_T63 l1 x19_1).f1.f4)] 63 (0, 0)) (by (with_reducible repeat (first | refine blk_drewN ?_ _ | refine blk_drew ?_ | refine blk_alloc ?_ _)); exact BK156.out) hb)
     have n1_ := aS (below_step (by repeat (first | (with_reducible first | exact HB.out | apply bA | apply bN | apply bD | refine below_set ?_ GE156.out) | exact HB.out)) hb)
     clear BK156
     clear HB
     have BK156 := n0_
     have HB := n1_
     clear n0_ n1_
     (try clear hb)
     (try clear hb2)
     (try clear hk)
     (try clear hi)
     refine hK.out _ _ ⟨(blk_cell BK156.out 0).trans rfl, (blk_cell BK156.out 1).trans rfl, (blk_cell BK156.out 2).trans rfl, (blk_cell BK156.out 3).trans rfl, (blk_cell BK156.out 4).trans rfl, (blk_cell BK156.out 5).trans rfl, (hup HB.out hw157_0), (hup HB.out hw157_1), (hup HB.out hw157_2), (hup HB.out hw157_3), (hup HB.out hw157_4)⟩ (fun hHeld => ?_)
     clear hK K
     refine norm_ (a' := ?_) ?_ ?_
     rotate_left
     ·show Act.put _ (some 46) _ = _
      simp only [Act.put, sA, sZ, sS, i64_w, i32_w]
      rfl
     refine pure_ (i := 23) (N := some 49) (v := ?_) (a' := ?_) (bs 26 16777215) rfl rfl (any_of HT_.out (by kernel_rfl)) (fun _ _ _ h => h) (Or.inl ⟨by rfl, ?_⟩) ?_ ?_
     rotate_left
     ·intro w'
      go_simp
      with_reducible rfl
     rotate_left
     ·simp only [Act.put, sA, sZ, sS, i64_w, i32_w]
      rfl
     refine pure_ (i := 24) (N := some 50) (v := ?_) (a' := ?_) (bs 26 33554431) rfl rfl (any_of HT_.out (by kernel_rfl)) (fun _ _ _ h => h) (Or.inl ⟨by rfl, ?_⟩) ?_ ?_
     rotate_left
     ·intro w'
      go_simp
      with_reducible rfl
     rotate_left
     ·simp only [Act.put, sA, sZ, sS, i64_w, i32_w]
      rfl
     refine pure_ (i := 25) (N := some 51) (v := ?_) (a' := ?_) (bs 26 67108863) rfl rfl (any_of HT_.out (by kernel_rfl)) (fun _ _ _ h => h) (Or.inl ⟨by rfl, ?_⟩) ?_ ?_
     rotate_left
     ·intro w'
      go_simp
      with_reducible rfl
     rotate_left
     ·simp only [Act.put, sA, sZ, sS, i64_w, i32_w]
      rfl
     refine done_ (done_of HT_.out (by kernel_rfl)) ?_
     try go_wp2
     go_ret
     exact ⟨by first | rfl | (simp [errW_none, errW_some] <;> rfl) | (simp [*, errW_none, errW_some] <;> rfl), by repeat (first | (with_reducible first | exact HB.out | apply bA | apply bN | apply bD | refine below_set ?_ GE156.out) | exact HB.out)⟩
    rw [if_pos c22] at H
    have c22b0 : (t158 == ((rd_T63 l1 x19_1).f0)) = true := beq_iff_eq.mpr c22
    have c22b1 : (t158 != ((rd_T63 l1 x19_1).f0)) = false := bne_eq_false_iff_eq.mpr c22
    clear c22
    have H' := aS H
    clear H
    have p155 : 0 ≤ (x19_1 : Int) := of_decide_eq_true (by first | (with_reducible assumption) | assumption)
    have q155 : x19_1 < (l1.length : Int) := of_decide_eq_true (by first | (with_reducible assumption) | assumption)
    obtain ⟨ad155, e155, hx155_0, hx155_1, hx155_2, hx155_3, hx155_4, hx155_5⟩ := at_T63 HR1.out x19_1 p155 q155
    cases e155
    replace hx155_0 := hup HB.out hx155_0
    replace hx155_1 := hup HB.out hx155_1
    replace hx155_2 := hup HB.out hx155_2
    replace hx155_3 := hup HB.out hx155_3
    replace hx155_4 := hup HB.out hx155_4
    replace hx155_5 := hup HB.out hx155_5
    replace p155 := eq_true p155
    replace q155 := eq_true q155
    try go_wp2_with (first | ((with_reducible refine gate_dst (N := 8) rfl ?_); refine box_event ?hg (N := 8) ?hd (cs := #[.int .i64 0, .string (⟨#[]⟩ : ByteArray), .int .i64 0, .bool false, .bool false, .bool false]) (t := 63) ?hr ?_; (case hd => rfl); (case hg => rfl); (case hr => first | (go_simp; done) | (go_simp; rfl)); intro gb156 hg w23 hbox hb; have n0_ := aS (below_step (by first | exact bel HB.out | exact HB.out) hb); have n1_ := aS (hbox); have n2_ := aS ((by rw [hg]; exact (below_size (by first | exact bel HB.out | exact HB.out)) : w.heap.size ≤ gb156)); have n3_ := aS ((by rw [hg]; exact (below_size (by first | exact bel HB.out | exact HB.out)) : w.heap.size ≤ gb156)); clear HB; have HB := n0_; have BK156 := n1_; have GW156 := n2_; have GE156 := n3_; clear n0_ n1_ n2_ n3_; clear hb hbox hg; have hcz24_0 : w23.cell? ⟨gb156, 0, none⟩ = some (.int .i64 0) := (blk_cell BK156.out 0).trans rfl; have hcz24_1 : w23.cell? ⟨gb156, 1, none⟩ = some (.string (⟨#[]⟩ : ByteArray)) := (blk_cell BK156.out 1).trans rfl; have hcz24_2 : w23.cell? ⟨gb156, 2, none⟩ = some (.int .i64 0) := (blk_cell BK156.out 2).trans rfl; have hcz24_3 : w23.cell? ⟨gb156, 3, none⟩ = some (.bool false) := (blk_cell BK156.out 3).trans rfl; have hcz24_4 : w23.cell? ⟨gb156, 4, none⟩ = some (.bool false) := (blk_cell BK156.out 4).trans rfl; have hcz24_5 : w23.cell? ⟨gb156, 5, none⟩ = some (.bool false) := (blk_cell BK156.out 5).trans rfl; have hfz24_0 := blk_frozen BK156.out 0; have hfz24_1 := blk_frozen BK156.out 1; have hfz24_2 := blk_frozen BK156.out 2; have hfz24_3 := blk_frozen BK156.out 3; have hfz24_4 := blk_frozen BK156.out 4; have hfz24_5 := blk_frozen BK156.out 5))
    have n0_ : Aside0 (((((((w23.setCell ⟨gb156, 0, none⟩ (.int .i64 ((rd_T63 l1 x19_1).f0))).setCell ⟨gb156, 1, none⟩ (.string ((rd_T63 l1 x19_1).f1.f0))).setCell ⟨gb156, 2, none⟩ (.int .i64 ((rd_T63 l1 x19_1).f1.f1))).setCell ⟨gb156, 3, none⟩ (.bool ((rd_T63 l1 x19_1).f1.f2))).setCell ⟨gb156, 4, none⟩ (.bool ((rd_T63 l1 x19_1).f1.f3))).setCell ⟨gb156, 5, none⟩ (.bool ((rd_T63 l1 x19_1).f1.f4))).heap[gb156]? = some (.cells #[.int .i64 ((rd_T63 l1 x19_1).f0), .string ((rd_T63 l1 x19_1).f1.f0), .int .i64 ((rd_T63 l1 x19_1).f1.f1), .bool ((rd_T63 l1 x19_1).f1.f2), .bool ((rd_T63 l1 x19_1).f1.f3), .bool ((rd_T63 l1 x19_1).f1.f4)] 63 (0, 0))) := ⟨by (with_reducible repeat (first | refine blk_drewN ?_ _ | refine blk_drew ?_ | refine blk_alloc ?_ _)); refine blk_put (cs := #[.int .i64 ((rd_T63 l1 x19_1).f0), .string ((rd_T63 l1 x19_1).f1.f0), .int .i64 ((rd_T63 l1 x19_1).f1.f1), .bool ((rd_T63 l1 x19_1).f1.f2), .bool ((rd_T63 l1 x19_1).f1.f3), .bool false]) ?_ 5 _ rfl; (with_reducible repeat (first | refine blk_drewN ?_ _ | refine blk_drew ?_ | refine blk_alloc ?_ _)); refine blk_put (cs := #[.int .i64 ((rd_T63 l1 x19_1).f0), .string ((rd_T63 l1 x19_1).f1.f0), .int .i64 ((rd_T63 l1 x19_1).f1.f1), .bool ((rd_T63 l1 x19_1).f1.f2), .bool false, .bool false]) ?_ 4 _ rfl; (with_reducible repeat (first | refine blk_drewN ?_ _ | refine blk_drew ?_ | refine blk_alloc ?_ _)); refine blk_put (cs := #[.int .i64 ((rd_T63 l1 x19_1).f0), .string ((rd_T63 l1 x19_1).f1.f0), .int .i64 ((rd_T63 l1 x19_1).f1.f1), .bool false, .bool false, .bool false]) ?_ 3 _ rfl; (with_reducible repeat (first | refine blk_drewN ?_ _ | refine blk_drew ?_ | refine blk_alloc ?_ _)); refine blk_put (cs := #[.int .i64 ((rd_T63 l1 x19_1).f0), .string ((rd_T63 l1 x19_1).f1.f0), .int .i64 0, .bool false, .bool false, .bool false]) ?_ 2 _ rfl; (with_reducible repeat (first | refine blk_drewN ?_ _ | refine blk_drew ?_ | refine blk_alloc ?_ _)); refine blk_put (cs := #[.int .i64 ((rd_T63 l1 x19_1).f0), .string (⟨#[]⟩ : ByteArray), .int .i64 0, .bool false, .bool false, .bool false]) ?_ 1 _ rfl; (with_reducible repeat (first | refine blk_drewN ?_ _ | refine blk_drew ?_ | refine blk_alloc ?_ _)); refine blk_put (cs := #[.int .i64 0, .string (⟨#[]⟩ : ByteArray), .int .i64 0, .bool false, .bool false, .bool false]) ?_ 0 _ rfl; (with_reducible repeat (first | refine blk_drewN ?_ _ | refine blk_drew ?_ | refine blk_alloc ?_ _)); exact BK156.out⟩
    have n1_ : Aside0 (Below w.heap.size w ((((((w23.setCell ⟨gb156, 0, none⟩ (.int .i64 ((rd_T63 l1 x19_1).f0))).setCell ⟨gb156, 1, none⟩ (.string ((rd_T63 l1 x19_1).f1.f0))).setCell ⟨gb156, 2, none⟩ (.int .i64 ((rd_T63 l1 x19_1).f1.f1))).setCell ⟨gb156, 3, none⟩ (.bool ((rd_T63 l1 x19_1).f1.f2))).setCell ⟨gb156, 4, none⟩ (.bool ((rd_T63 l1 x19_1).f1.f3))).setCell ⟨gb156, 5, none⟩ (.bool ((rd_T63 l1 x19_1).f1.f4)))) := ⟨by repeat (first | (with_reducible first | exact HB.out | apply bA | apply bN | apply bD | refine below_set ?_ GE156.out) | exact HB.out)⟩
    (try clear BK156)
    (try clear HB)
    generalize ((((((w23.setCell ⟨gb156, 0, none⟩ (.int .i64 ((rd_T63 l1 x19_1).f0))).setCell ⟨gb156, 1, none⟩ (.string ((rd_T63 l1 x19_1).f1.f0))).setCell ⟨gb156, 2, none⟩ (.int .i64 ((rd_T63 l1 x19_1).f1.f1))).setCell ⟨gb156, 3, none⟩ (.bool ((rd_T63 l1 x19_1).f1.f2))).setCell ⟨gb156, 4, none⟩ (.bool ((rd_T63 l1 x19_1).f1.f3))).setCell ⟨gb156, 5, none⟩ (.bool ((rd_T63 l1 x19_1).f1.f4))) = w25 at n0_ n1_ ⊢
    have BK156 := n0_
    have HB := n1_
    clear n0_ n1_
    have n0_ := aS (blk_drew BK156.out)
    have n1_ := aS (below_drew1 HB.out)
    clear BK156
    clear HB
    have BK156 := n0_
    have HB := n1_
    clear n0_ n1_
    have p157 : 0 ≤ (x6_1 : Int) := of_decide_eq_true (by first | (with_reducible assumption) | assumption)
    have q157 : x6_1 < (l0.length : Int) := of_decide_eq_true (by first | (with_reducible assumption) | assumption)
    obtain ⟨ad157, e157, hx157_0, hx157_1, hx157_2, hx157_3, hx157_4⟩ := at_T50 HR0.out x6_1 p157 q157
    have hw157_4 := hx157_4
    have hw157_3 := hx157_3
    have hw157_2 := hx157_2
    have hw157_1 := hx157_1
    have hw157_0 := hx157_0
    cases e157
    replace hx157_0 := hup HB.out hx157_0
    replace hx157_1 := hup HB.out hx157_1
    replace hx157_2 := hup HB.out hx157_2
    replace hx157_3 := hup HB.out hx157_3
    replace hx157_4 := hup HB.out hx157_4
    replace p157 := eq_true p157
    replace q157 := eq_true q157
    refine start_ (n := 26) (S := fun w' => w'.cell? ⟨gb156, 0, none⟩ = some (.int .i64 ((rd_T63 l1 x19_1).f0)) ∧ w'.cell? ⟨gb156, 1, none⟩ = some (.string ((rd_T63 l1 x19_1).f1.f0)) ∧ w'.cell? ⟨gb156, 2, none⟩ = some (.int .i64 ((rd_T63 l1 x19_1).f1.f1)) ∧ w'.cell? ⟨gb156, 3, none⟩ = some (.bool ((rd_T63 l1 x19_1).f1.f2)) ∧ w'.cell? ⟨gb156, 4, none⟩ = some (.bool ((rd_T63 l1 x19_1).f1.f3)) ∧ w'.cell? ⟨gb156, 5, none⟩ = some (.bool ((rd_T63 l1 x19_1).f1.f4)) ∧ w'.cell? (ad157.add ((x6_1).toNat * 5)) = some (.string ((rd_T50 l0 x6_1).f0)) ∧ w'.cell? ⟨(ad157.add ((x6_1).toNat * 5)).block, (ad157.add ((x6_1).toNat * 5)).off + 1, none⟩ = some (.int .i64 ((rd_T50 l0 x6_1).f1)) ∧ w'.cell? ⟨(ad157.add ((x6_1).toNat * 5)).block, (ad157.add ((x6_1).toNat * 5)).off + 2, none⟩ = some (.bool ((rd_T50 l0 x6_1).f2)) ∧ w'.cell? ⟨(ad157.add ((x6_1).toNat * 5)).block, (ad157.add ((x6_1).toNat * 5)).off + 3, none⟩ = some (.bool ((rd_T50 l0 x6_1).f3)) ∧ w'.cell? ⟨(ad157.add ((x6_1).toNat * 5)).block, (ad157.add ((x6_1).toNat * 5)).off + 4, none⟩ = some (.bool ((rd_T50 l0 x6_1).f4))) (ds := []) #[false, false, false, false, false, false, false, false, false, false, false, false, false, false, false, false, false, false, false, false, false, false, false, false, false, false] (by kernel_rfl) rfl rfl ⟨(blk_cell BK156.out 0).trans rfl, (blk_cell BK156.out 1).trans rfl, (blk_cell BK156.out 2).trans rfl, (blk_cell BK156.out 3).trans rfl, (blk_cell BK156.out 4).trans rfl, (blk_cell BK156.out 5).trans rfl, (hup HB.out hw157_0), (hup HB.out hw157_1), (hup HB.out hw157_2), (hup HB.out hw157_3), (hup HB.out hw157_4)⟩ (fun hHeld => ?_); refine with_tabW compare_fits.tab11 compare_fits.bits11 (fun HT_ HW_ => ?_)
    generalize w25.drew = w26 at BK156 HB hx157_0 hx157_1 hx157_2 hx157_3 hx157_4 hHeld ⊢
    refine pure_ (i := 0) (N := some 26) (v := ?_) (a' := ?_) (bs 26 1) rfl rfl (any_of HT_.out (by kernel_rfl)) (fun _ _ _ h => h) (Or.inl ⟨by rfl, ?_⟩) ?_ ?_
    rotate_left
    ·intro w'
     go_simp
     with_reducible rfl
    rotate_left
    ·simp only [Act.put, sA, sZ, sS, i64_w, i32_w]
     rfl
    refine pure_ (i := 1) (N := some 27) (v := ?_) (a' := ?_) (bs 26 3) rfl rfl (any_of HT_.out (by kernel_rfl)) (fun _ _ _ h => h) (Or.inl ⟨by rfl, ?_⟩) ?_ ?_
    rotate_left
    ·intro w'
     go_simp
     with_reducible rfl
    rotate_left
    ·simp only [Act.put, sA, sZ, sS, i64_w, i32_w]
     rfl
    refine pure_ (i := 2) (N := some 28) (v := ?_) (a' := ?_) (bs 26 7) rfl rfl (any_of HT_.out (by kernel_rfl)) (fun _ _ _ h => h) (Or.inl ⟨by rfl, ?_⟩) ?_ ?_
    rotate_left
    ·intro w'
     go_simp
     with_reducible rfl
    rotate_left
    ·simp only [Act.put, sA, sZ, sS, i64_w, i32_w]
     rfl
    refine pure_ (i := 3) (N := some 29) (v := ?_) (a' := ?_) (bs 26 15) rfl rfl (any_of HT_.out (by kernel_rfl)) (fun _ _ _ h => h) (Or.inl ⟨by rfl, ?_⟩) ?_ ?_
    rotate_left
    ·intro w'
     go_simp
     with_reducible rfl
    rotate_left
    ·simp only [Act.put, sA, sZ, sS, i64_w, i32_w]
     rfl
    refine pure_ (i := 4) (N := some 30) (v := ?_) (a' := ?_) (bs 26 31) rfl rfl (any_of HT_.out (by kernel_rfl)) (fun _ _ _ h => h) (Or.inl ⟨by rfl, ?_⟩) ?_ ?_
    rotate_left
    ·intro w'
     go_simp
     with_reducible rfl
    rotate_left
    ·simp only [Act.put, sA, sZ, sS, i64_w, i32_w]
     rfl
    refine pure_ (i := 5) (N := some 31) (v := ?_) (a' := ?_) (bs 26 63) rfl rfl (any_of HT_.out (by kernel_rfl)) (fun _ _ _ h => h) (Or.inl ⟨by rfl, ?_⟩) ?_ ?_
    rotate_left
    ·intro w'
     go_simp
     with_reducible rfl
    rotate_left
    ·simp only [Act.put, sA, sZ, sS, i64_w, i32_w]
     rfl
    refine take_ (i := 6) (N := some 32) (v := ?_) (a' := ?_) (bs 26 127) rfl rfl (take_ofW HT_.out HW_.out (by kernel_rfl)) (fun _ _ _ h => h) (Or.inl ⟨by rfl, ?_⟩) hHeld ?_ ?_
    rotate_left
    ·rintro w' ⟨s0, s1, s2, s3, s4, s5, s6, s7, s8, s9, s10⟩
     go_simp
     with_reducible rfl
    rotate_left
    ·simp only [Act.put, sA, sZ, sS, i64_w, i32_w]
     rfl
    refine pure_ (i := 7) (N := some 33) (v := ?_) (a' := ?_) (bs 26 255) rfl rfl (any_of HT_.out (by kernel_rfl)) (fun _ _ _ h => h) (Or.inl ⟨by rfl, ?_⟩) ?_ ?_
    rotate_left
    ·intro w'
     go_simp
     with_reducible rfl
    rotate_left
    ·simp only [Act.put, sA, sZ, sS, i64_w, i32_w]
     rfl
    refine pure_ (i := 8) (N := some 34) (v := ?_) (a' := ?_) (bs 26 511) rfl rfl (any_of HT_.out (by kernel_rfl)) (fun _ _ _ h => h) (Or.inl ⟨by rfl, ?_⟩) ?_ ?_
    rotate_left
    ·intro w'
     go_simp
     with_reducible rfl
    rotate_left
    ·simp only [Act.put, sA, sZ, sS, i64_w, i32_w]
     rfl
    refine pure_ (i := 9) (N := some 35) (v := undef) (a' := ?_) (bs 26 1023) rfl rfl (any_of HT_.out (by kernel_rfl)) (fun _ _ _ h => h) (Or.inr ⟨by rfl, rfl⟩) ?_ ?_
    rotate_left
    ·simp only [Act.put, sA, sZ, sS, i64_w, i32_w]
     rfl
    refine pure_ (i := 10) (N := some 36) (v := undef) (a' := ?_) (bs 26 2047) rfl rfl (any_of HT_.out (by kernel_rfl)) (fun _ _ _ h => h) (Or.inr ⟨by rfl, rfl⟩) ?_ ?_
    rotate_left
    ·simp only [Act.put, sA, sZ, sS, i64_w, i32_w]
     rfl
    refine pure_ (i := 11) (N := some 37) (v := undef) (a' := ?_) (bs 26 4095) rfl rfl (any_of HT_.out (by kernel_rfl)) (fun _ _ _ h => h) (Or.inr ⟨by rfl, rfl⟩) ?_ ?_
    rotate_left
    ·simp only [Act.put, sA, sZ, sS, i64_w, i32_w]
     rfl
    refine pure_ (i := 12) (N := some 38) (v := ?_) (a' := ?_) (bs 26 8191) rfl rfl (any_of HT_.out (by kernel_rfl)) (fun _ _ _ h => h) (Or.inl ⟨by rfl, ?_⟩) ?_ ?_
    rotate_left
    ·intro w'
     go_simp
     with_reducible rfl
    rotate_left
    ·simp only [Act.put, sA, sZ, sS, i64_w, i32_w]
     rfl
    refine pure_ (i := 13) (N := some 39) (v := ?_) (a' := ?_) (bs 26 16383) rfl rfl (any_of HT_.out (by kernel_rfl)) (fun _ _ _ h => h) (Or.inl ⟨by rfl, ?_⟩) ?_ ?_
    rotate_left
    ·intro w'
     go_simp
     with_reducible rfl
    rotate_left
    ·simp only [Act.put, sA, sZ, sS, i64_w, i32_w]
     rfl
    refine pure_ (i := 14) (N := some 40) (v := ?_) (a' := ?_) (bs 26 32767) rfl rfl (any_of HT_.out (by kernel_rfl)) (fun _ _ _ h => h) (Or.inl ⟨by rfl, ?_⟩) ?_ ?_
    rotate_left
    ·intro w'
     go_simp
     with_reducible rfl
    rotate_left
    ·simp only [Act.put, sA, sZ, sS, i64_w, i32_w]
     rfl
    refine pure_ (i := 15) (N := some 41) (v := ?_) (a' := ?_) (bs 26 65535) rfl rfl (any_of HT_.out (by kernel_rfl)) (fun _ _ _ h => h) (Or.inl ⟨by rfl, ?_⟩) ?_ ?_
    rotate_left
    ·intro w'
     go_simp
     with_reducible rfl
    rotate_left
    ·simp only [Act.put, sA, sZ, sS, i64_w, i32_w]
     rfl
    refine pure_ (i := 16) (N := some 42) (v := ?_) (a' := ?_) (bs 26 131071) rfl rfl (any_of HT_.out (by kernel_rfl)) (fun _ _ _ h => h) (Or.inl ⟨by rfl, ?_⟩) ?_ ?_
    rotate_left
    ·intro w'
     go_simp
     with_reducible rfl
    rotate_left
    ·simp only [Act.put, sA, sZ, sS, i64_w, i32_w]
     rfl
    refine pure_ (i := 18) (N := some 44) (v := ?_) (a' := ?_) (bs 26 393215) rfl rfl (any_of HT_.out (by kernel_rfl)) (fun _ _ _ h => h) (Or.inl ⟨by rfl, ?_⟩) ?_ ?_
    rotate_left
    ·intro w'
     go_simp
     with_reducible rfl
    rotate_left
    ·simp only [Act.put, sA, sZ, sS, i64_w, i32_w]
     rfl
    refine pure_ (i := 21) (N := some 47) (v := ?_) (a' := ?_) (bs 26 2490367) rfl rfl (any_of HT_.out (by kernel_rfl)) (fun _ _ _ h => h) (Or.inl ⟨by rfl, ?_⟩) ?_ ?_
    rotate_left
    ·intro w'
     go_simp
     with_reducible rfl
    rotate_left
    ·simp only [Act.put, sA, sZ, sS, i64_w, i32_w]
     rfl
    refine take_ (i := 17) (N := some 43) (v := ?_) (a' := ?_) (bs 26 2621439) rfl rfl (take_ofW HT_.out HW_.out (by kernel_rfl)) (fun _ _ _ h => h) (Or.inl ⟨by rfl, ?_⟩) hHeld ?_ ?_
    rotate_left
    ·rintro w' ⟨s0, s1, s2, s3, s4, s5, s6, s7, s8, s9, s10⟩
     go_simp
     with_reducible rfl
    rotate_left
    ·simp only [Act.put, sA, sZ, sS, i64_w, i32_w]
     rfl
    refine take_ (i := 19) (N := some 45) (v := ?_) (a' := ?_) (bs 26 3145727) rfl rfl (take_ofW HT_.out HW_.out (by kernel_rfl)) (fun _ _ _ h => h) (Or.inl ⟨by rfl, ?_⟩) hHeld ?_ ?_
    rotate_left
    ·rintro w' ⟨s0, s1, s2, s3, s4, s5, s6, s7, s8, s9, s10⟩
     go_simp
     with_reducible rfl
    rotate_left
    ·simp only [Act.put, sA, sZ, sS, i64_w, i32_w]
     rfl
    refine take_ (i := 22) (N := some 48) (v := ?_) (a' := ?_) (bs 26 7340031) rfl rfl (take_ofW HT_.out HW_.out (by kernel_rfl)) (fun _ _ _ h => h) (Or.inl ⟨by rfl, ?_⟩) hHeld ?_ ?_
    rotate_left
    ·rintro w' ⟨s0, s1, s2, s3, s4, s5, s6, s7, s8, s9, s10⟩
     go_simp
     with_reducible rfl
    rotate_left
    ·simp only [Act.put, sA, sZ, sS, i64_w, i32_w]
     rfl
    refine one_ (i := 20) (N := some 46) (bs 26 8388607) rfl rfl (one_of HT_.out (by kernel_rfl)) (by decide) (fun K hK => ?_)
    refine goes_ Try.func35 (by kernel_rfl) rfl #[.agg #[.string ((rd_T50 l0 x6_1).f0), .int .i64 ((rd_T50 l0 x6_1).f1), .bool ((rd_T50 l0 x6_1).f2), .bool ((rd_T50 l0 x6_1).f3), .bool ((rd_T50 l0 x6_1).f4)], .agg #[.string ((rd_T63 l1 x19_1).f1.f0), .int .i64 ((rd_T63 l1 x19_1).f1.f1), .bool ((rd_T63 l1 x19_1).f1.f2), .bool ((rd_T63 l1 x19_1).f1.f3), .bool ((rd_T63 l1 x19_1).f1.f4)]] (by rfl) rfl rfl (by (try simp only [List.map_toArray, List.map_cons, List.map_nil]); first | done | rfl | (simp only [List.length_drop, List.length_take]; rfl)) ?_
    with_reducible refine (compare_taking.calls ((rd_T50 l0 x6_1).f0) ((rd_T50 l0 x6_1).f1) ((rd_T50 l0 x6_1).f2) ((rd_T50 l0 x6_1).f3) ((rd_T50 l0 x6_1).f4) ((rd_T63 l1 x19_1).f1.f0) ((rd_T63 l1 x19_1).f1.f1) ((rd_T63 l1 x19_1).f1.f2) ((rd_T63 l1 x19_1).f1.f3) ((rd_T63 l1 x19_1).f1.f4) t158 _ A21.out).mono ?_
    rintro e w27 ⟨rfl, hb⟩
    refine ⟨_, rfl, ?_⟩
    have n0_ := aS (blk_below (g := gb156) (o := .cells #[.int .i64 ((rd_T63 l1 x19_1).f0), .string ((rd_T63 l1 x19_1).f1.f0), .int .i64 ((rd_T63 l1 x19_1).f1.f1), .bool ((rd_T63 l1 x19_1).f1.f2), .bool ((rd_T63 l1 x19_1).f1.f3), .bool ((rd_T63 l1 x19_1).f1.f4)] 63 (0, 0)) (by (with_reducible repeat (first | refine blk_drewN ?_ _ | refine blk_drew ?_ | refine blk_alloc ?_ _)); exact BK156.out) hb)
    have n1_ := aS (below_step (by repeat (first | (with_reducible first | exact HB.out | apply bA | apply bN | apply bD | refine below_set ?_ GE156.out) | exact HB.out)) hb)
    clear BK156
    clear HB
    have BK156 := n0_
    have HB := n1_
    clear n0_ n1_
    (try clear hb)
    (try clear hb2)
    (try clear hk)
    (try clear hi)
    refine hK.out _ _ ⟨(blk_cell BK156.out 0).trans rfl, (blk_cell BK156.out 1).trans rfl, (blk_cell BK156.out 2).trans rfl, (blk_cell BK156.out 3).trans rfl, (blk_cell BK156.out 4).trans rfl, (blk_cell BK156.out 5).trans rfl, (hup HB.out hw157_0), (hup HB.out hw157_1), (hup HB.out hw157_2), (hup HB.out hw157_3), (hup HB.out hw157_4)⟩ (fun hHeld => ?_)
    clear hK K
    refine norm_ (a' := ?_) ?_ ?_
    rotate_left
    ·show Act.put _ (some 46) _ = _
     simp only [Act.put, sA, sZ, sS, i64_w, i32_w]
     rfl
    refine pure_ (i := 23) (N := some 49) (v := ?_) (a' := ?_) (bs 26 16777215) rfl rfl (any_of HT_.out (by kernel_rfl)) (fun _ _ _ h => h) (Or.inl ⟨by rfl, ?_⟩) ?_ ?_
    rotate_left
    ·intro w'
     go_simp
     with_reducible rfl
    rotate_left
    ·simp only [Act.put, sA, sZ, sS, i64_w, i32_w]
     rfl
    refine pure_ (i := 24) (N := some 50) (v := ?_) (a' := ?_) (bs 26 33554431) rfl rfl (any_of HT_.out (by kernel_rfl)) (fun _ _ _ h => h) (Or.inl ⟨by rfl, ?_⟩) ?_ ?_
    rotate_left
    ·intro w'
     go_simp
     with_reducible rfl
    rotate_left
    ·simp only [Act.put, sA, sZ, sS, i64_w, i32_w]
     rfl
    refine pure_ (i := 25) (N := some 51) (v := ?_) (a' := ?_) (bs 26 67108863) rfl rfl (any_of HT_.out (by kernel_rfl)) (fun _ _ _ h => h) (Or.inl ⟨by rfl, ?_⟩) ?_ ?_
    rotate_left
    ·intro w'
     go_simp
     with_reducible rfl
    rotate_left
    ·simp only [Act.put, sA, sZ, sS, i64_w, i32_w]
     rfl
    refine done_ (done_of HT_.out (by kernel_rfl)) ?_
    try go_wp2
    go_roundg k1
    case measure => have := HK1.out; omega
    case rel => exact ⟨(wrap64 (x6_1 + 1)), (wrap64 (x19_1 + 1)), (by first | rfl | (simp; done) | (simp [*]; done)), (by first | rfl | (simp; done) | (simp [*]; done)), H', ⟨by have := HK1.out; omega⟩, ⟨by repeat (first | (with_reducible first | exact HB.out | apply bA | apply bN | apply bD | refine below_set ?_ GE156.out) | exact HB.out)⟩⟩
   rw [if_neg c18] at H
   have c18b0 : (((rd_T63 l1 x19_1).f0) == 2) = false := beq_eq_false_iff_ne.mpr c18
   have c18b1 : (((rd_T63 l1 x19_1).f0) != 2) = true := bne_iff_ne.mpr c18
   by_cases c33 : ((rd_T63 l1 x19_1).f0) = 3
   rotate_left
   ·rw [if_neg c33] at H
    have c33b0 : (((rd_T63 l1 x19_1).f0) == 3) = false := beq_eq_false_iff_ne.mpr c33
    have c33b1 : (((rd_T63 l1 x19_1).f0) != 3) = true := bne_iff_ne.mpr c33
    have H' := aS H
    clear H
    have p155 : 0 ≤ (x19_1 : Int) := of_decide_eq_true (by first | (with_reducible assumption) | assumption)
    have q155 : x19_1 < (l1.length : Int) := of_decide_eq_true (by first | (with_reducible assumption) | assumption)
    obtain ⟨ad155, e155, hx155_0, hx155_1, hx155_2, hx155_3, hx155_4, hx155_5⟩ := at_T63 HR1.out x19_1 p155 q155
    cases e155
    replace hx155_0 := hup HB.out hx155_0
    replace hx155_1 := hup HB.out hx155_1
    replace hx155_2 := hup HB.out hx155_2
    replace hx155_3 := hup HB.out hx155_3
    replace hx155_4 := hup HB.out hx155_4
    replace hx155_5 := hup HB.out hx155_5
    replace p155 := eq_true p155
    replace q155 := eq_true q155
    try go_wp2_with (first | ((with_reducible refine gate_dst (N := 8) rfl ?_); refine box_event ?hg (N := 8) ?hd (cs := #[.int .i64 0, .string (⟨#[]⟩ : ByteArray), .int .i64 0, .bool false, .bool false, .bool false]) (t := 63) ?hr ?_; (case hd => rfl); (case hg => rfl); (case hr => first | (go_simp; done) | (go_simp; rfl)); intro gb156 hg w48 hbox hb; have n0_ := aS (below_step (by first | exact bel HB.out | exact HB.out) hb); have n1_ := aS (hbox); have n2_ := aS ((by rw [hg]; exact (below_size (by first | exact bel HB.out | exact HB.out)) : w.heap.size ≤ gb156)); have n3_ := aS ((by rw [hg]; exact (below_size (by first | exact bel HB.out | exact HB.out)) : w.heap.size ≤ gb156)); clear HB; have HB := n0_; have BK156 := n1_; have GW156 := n2_; have GE156 := n3_; clear n0_ n1_ n2_ n3_; clear hb hbox hg; have hcz49_0 : w48.cell? ⟨gb156, 0, none⟩ = some (.int .i64 0) := (blk_cell BK156.out 0).trans rfl; have hcz49_1 : w48.cell? ⟨gb156, 1, none⟩ = some (.string (⟨#[]⟩ : ByteArray)) := (blk_cell BK156.out 1).trans rfl; have hcz49_2 : w48.cell? ⟨gb156, 2, none⟩ = some (.int .i64 0) := (blk_cell BK156.out 2).trans rfl; have hcz49_3 : w48.cell? ⟨gb156, 3, none⟩ = some (.bool false) := (blk_cell BK156.out 3).trans rfl; have hcz49_4 : w48.cell? ⟨gb156, 4, none⟩ = some (.bool false) := (blk_cell BK156.out 4).trans rfl; have hcz49_5 : w48.cell? ⟨gb156, 5, none⟩ = some (.bool false) := (blk_cell BK156.out 5).trans rfl; have hfz49_0 := blk_frozen BK156.out 0; have hfz49_1 := blk_frozen BK156.out 1; have hfz49_2 := blk_frozen BK156.out 2; have hfz49_3 := blk_frozen BK156.out 3; have hfz49_4 := blk_frozen BK156.out 4; have hfz49_5 := blk_frozen BK156.out 5))
    have n0_ : Aside0 (((((((w48.setCell ⟨gb156, 0, none⟩ (.int .i64 ((rd_T63 l1 x19_1).f0))).setCell ⟨gb156, 1, none⟩ (.string ((rd_T63 l1 x19_1).f1.f0))).setCell ⟨gb156, 2, none⟩ (.int .i64 ((rd_T63 l1 x19_1).f1.f1))).setCell ⟨gb156, 3, none⟩ (.bool ((rd_T63 l1 x19_1).f1.f2))).setCell ⟨gb156, 4, none⟩ (.bool ((rd_T63 l1 x19_1).f1.f3))).setCell ⟨gb156, 5, none⟩ (.bool ((rd_T63 l1 x19_1).f1.f4))).heap[gb156]? = some (.cells #[.int .i64 ((rd_T63 l1 x19_1).f0), .string ((rd_T63 l1 x19_1).f1.f0), .int .i64 ((rd_T63 l1 x19_1).f1.f1), .bool ((rd_T63 l1 x19_1).f1.f2), .bool ((rd_T63 l1 x19_1).f1.f3), .bool ((rd_T63 l1 x19_1).f1.f4)] 63 (0, 0))) := ⟨by (with_reducible repeat (first | refine blk_drewN ?_ _ | refine blk_drew ?_ | refine blk_alloc ?_ _)); refine blk_put (cs := #[.int .i64 ((rd_T63 l1 x19_1).f0), .string ((rd_T63 l1 x19_1).f1.f0), .int .i64 ((rd_T63 l1 x19_1).f1.f1), .bool ((rd_T63 l1 x19_1).f1.f2), .bool ((rd_T63 l1 x19_1).f1.f3), .bool false]) ?_ 5 _ rfl; (with_reducible repeat (first | refine blk_drewN ?_ _ | refine blk_drew ?_ | refine blk_alloc ?_ _)); refine blk_put (cs := #[.int .i64 ((rd_T63 l1 x19_1).f0), .string ((rd_T63 l1 x19_1).f1.f0), .int .i64 ((rd_T63 l1 x19_1).f1.f1), .bool ((rd_T63 l1 x19_1).f1.f2), .bool false, .bool false]) ?_ 4 _ rfl; (with_reducible repeat (first | refine blk_drewN ?_ _ | refine blk_drew ?_ | refine blk_alloc ?_ _)); refine blk_put (cs := #[.int .i64 ((rd_T63 l1 x19_1).f0), .string ((rd_T63 l1 x19_1).f1.f0), .int .i64 ((rd_T63 l1 x19_1).f1.f1), .bool false, .bool false, .bool false]) ?_ 3 _ rfl; (with_reducible repeat (first | refine blk_drewN ?_ _ | refine blk_drew ?_ | refine blk_alloc ?_ _)); refine blk_put (cs := #[.int .i64 ((rd_T63 l1 x19_1).f0), .string ((rd_T63 l1 x19_1).f1.f0), .int .i64 0, .bool false, .bool false, .bool false]) ?_ 2 _ rfl; (with_reducible repeat (first | refine blk_drewN ?_ _ | refine blk_drew ?_ | refine blk_alloc ?_ _)); refine blk_put (cs := #[.int .i64 ((rd_T63 l1 x19_1).f0), .string (⟨#[]⟩ : ByteArray), .int .i64 0, .bool false, .bool false, .bool false]) ?_ 1 _ rfl; (with_reducible repeat (first | refine blk_drewN ?_ _ | refine blk_drew ?_ | refine blk_alloc ?_ _)); refine blk_put (cs := #[.int .i64 0, .string (⟨#[]⟩ : ByteArray), .int .i64 0, .bool false, .bool false, .bool false]) ?_ 0 _ rfl; (with_reducible repeat (first | refine blk_drewN ?_ _ | refine blk_drew ?_ | refine blk_alloc ?_ _)); exact BK156.out⟩
    have n1_ : Aside0 (Below w.heap.size w ((((((w48.setCell ⟨gb156, 0, none⟩ (.int .i64 ((rd_T63 l1 x19_1).f0))).setCell ⟨gb156, 1, none⟩ (.string ((rd_T63 l1 x19_1).f1.f0))).setCell ⟨gb156, 2, none⟩ (.int .i64 ((rd_T63 l1 x19_1).f1.f1))).setCell ⟨gb156, 3, none⟩ (.bool ((rd_T63 l1 x19_1).f1.f2))).setCell ⟨gb156, 4, none⟩ (.bool ((rd_T63 l1 x19_1).f1.f3))).setCell ⟨gb156, 5, none⟩ (.bool ((rd_T63 l1 x19_1).f1.f4)))) := ⟨by repeat (first | (with_reducible first | exact HB.out | apply bA | apply bN | apply bD | refine below_set ?_ GE156.out) | exact HB.out)⟩
    (try clear BK156)
    (try clear HB)
    generalize ((((((w48.setCell ⟨gb156, 0, none⟩ (.int .i64 ((rd_T63 l1 x19_1).f0))).setCell ⟨gb156, 1, none⟩ (.string ((rd_T63 l1 x19_1).f1.f0))).setCell ⟨gb156, 2, none⟩ (.int .i64 ((rd_T63 l1 x19_1).f1.f1))).setCell ⟨gb156, 3, none⟩ (.bool ((rd_T63 l1 x19_1).f1.f2))).setCell ⟨gb156, 4, none⟩ (.bool ((rd_T63 l1 x19_1).f1.f3))).setCell ⟨gb156, 5, none⟩ (.bool ((rd_T63 l1 x19_1).f1.f4))) = w50 at n0_ n1_ ⊢
    have BK156 := n0_
    have HB := n1_
    clear n0_ n1_
    have n0_ := aS (blk_drew BK156.out)
    have n1_ := aS (below_drew1 HB.out)
    clear BK156
    clear HB
    have BK156 := n0_
    have HB := n1_
    clear n0_ n1_
    refine start_ (n := 26) (S := fun w' => w'.cell? ⟨gb156, 0, none⟩ = some (.int .i64 ((rd_T63 l1 x19_1).f0)) ∧ w'.cell? ⟨gb156, 1, none⟩ = some (.string ((rd_T63 l1 x19_1).f1.f0)) ∧ w'.cell? ⟨gb156, 2, none⟩ = some (.int .i64 ((rd_T63 l1 x19_1).f1.f1)) ∧ w'.cell? ⟨gb156, 3, none⟩ = some (.bool ((rd_T63 l1 x19_1).f1.f2)) ∧ w'.cell? ⟨gb156, 4, none⟩ = some (.bool ((rd_T63 l1 x19_1).f1.f3)) ∧ w'.cell? ⟨gb156, 5, none⟩ = some (.bool ((rd_T63 l1 x19_1).f1.f4))) (ds := []) #[false, false, false, false, false, false, false, false, false, false, false, false, false, false, false, false, false, false, false, false, false, false, false, false, false, false] (by kernel_rfl) rfl rfl ⟨(blk_cell BK156.out 0).trans rfl, (blk_cell BK156.out 1).trans rfl, (blk_cell BK156.out 2).trans rfl, (blk_cell BK156.out 3).trans rfl, (blk_cell BK156.out 4).trans rfl, (blk_cell BK156.out 5).trans rfl⟩ (fun hHeld => ?_); refine with_tabW compare_fits.tab11 compare_fits.bits11 (fun HT_ HW_ => ?_)
    generalize w50.drew = w51 at BK156 HB hHeld ⊢
    refine pure_ (i := 0) (N := some 26) (v := ?_) (a' := ?_) (bs 26 1) rfl rfl (any_of HT_.out (by kernel_rfl)) (fun _ _ _ h => h) (Or.inl ⟨by rfl, ?_⟩) ?_ ?_
    rotate_left
    ·intro w'
     go_simp
     with_reducible rfl
    rotate_left
    ·simp only [Act.put, sA, sZ, sS, i64_w, i32_w]
     rfl
    refine pure_ (i := 1) (N := some 27) (v := ?_) (a' := ?_) (bs 26 3) rfl rfl (any_of HT_.out (by kernel_rfl)) (fun _ _ _ h => h) (Or.inl ⟨by rfl, ?_⟩) ?_ ?_
    rotate_left
    ·intro w'
     go_simp
     with_reducible rfl
    rotate_left
    ·simp only [Act.put, sA, sZ, sS, i64_w, i32_w]
     rfl
    refine pure_ (i := 2) (N := some 28) (v := ?_) (a' := ?_) (bs 26 7) rfl rfl (any_of HT_.out (by kernel_rfl)) (fun _ _ _ h => h) (Or.inl ⟨by rfl, ?_⟩) ?_ ?_
    rotate_left
    ·intro w'
     go_simp
     with_reducible rfl
    rotate_left
    ·simp only [Act.put, sA, sZ, sS, i64_w, i32_w]
     rfl
    refine pure_ (i := 3) (N := some 29) (v := ?_) (a' := ?_) (bs 26 15) rfl rfl (any_of HT_.out (by kernel_rfl)) (fun _ _ _ h => h) (Or.inl ⟨by rfl, ?_⟩) ?_ ?_
    rotate_left
    ·intro w'
     go_simp
     with_reducible rfl
    rotate_left
    ·simp only [Act.put, sA, sZ, sS, i64_w, i32_w]
     rfl
    refine pure_ (i := 4) (N := some 30) (v := ?_) (a' := ?_) (bs 26 31) rfl rfl (any_of HT_.out (by kernel_rfl)) (fun _ _ _ h => h) (Or.inl ⟨by rfl, ?_⟩) ?_ ?_
    rotate_left
    ·intro w'
     go_simp
     with_reducible rfl
    rotate_left
    ·simp only [Act.put, sA, sZ, sS, i64_w, i32_w]
     rfl
    refine pure_ (i := 5) (N := some 31) (v := ?_) (a' := ?_) (bs 26 63) rfl rfl (any_of HT_.out (by kernel_rfl)) (fun _ _ _ h => h) (Or.inl ⟨by rfl, ?_⟩) ?_ ?_
    rotate_left
    ·intro w'
     go_simp
     with_reducible rfl
    rotate_left
    ·simp only [Act.put, sA, sZ, sS, i64_w, i32_w]
     rfl
    refine take_ (i := 6) (N := some 32) (v := ?_) (a' := ?_) (bs 26 127) rfl rfl (take_ofW HT_.out HW_.out (by kernel_rfl)) (fun _ _ _ h => h) (Or.inl ⟨by rfl, ?_⟩) hHeld ?_ ?_
    rotate_left
    ·rintro w' ⟨s0, s1, s2, s3, s4, s5⟩
     go_simp
     with_reducible rfl
    rotate_left
    ·simp only [Act.put, sA, sZ, sS, i64_w, i32_w]
     rfl
    refine pure_ (i := 7) (N := some 33) (v := ?_) (a' := ?_) (bs 26 255) rfl rfl (any_of HT_.out (by kernel_rfl)) (fun _ _ _ h => h) (Or.inl ⟨by rfl, ?_⟩) ?_ ?_
    rotate_left
    ·intro w'
     go_simp
     with_reducible rfl
    rotate_left
    ·simp only [Act.put, sA, sZ, sS, i64_w, i32_w]
     rfl
    refine pure_ (i := 8) (N := some 34) (v := ?_) (a' := ?_) (bs 26 511) rfl rfl (any_of HT_.out (by kernel_rfl)) (fun _ _ _ h => h) (Or.inl ⟨by rfl, ?_⟩) ?_ ?_
    rotate_left
    ·intro w'
     go_simp
     with_reducible rfl
    rotate_left
    ·simp only [Act.put, sA, sZ, sS, i64_w, i32_w]
     rfl
    refine pure_ (i := 9) (N := some 35) (v := ?_) (a' := ?_) (bs 26 1023) rfl rfl (any_of HT_.out (by kernel_rfl)) (fun _ _ _ h => h) (Or.inl ⟨by rfl, ?_⟩) ?_ ?_
    rotate_left
    ·intro w'
     go_simp
     with_reducible rfl
    rotate_left
    ·simp only [Act.put, sA, sZ, sS, i64_w, i32_w]
     rfl
    refine take_ (i := 10) (N := some 36) (v := ?_) (a' := ?_) (bs 26 2047) rfl rfl (take_ofW HT_.out HW_.out (by kernel_rfl)) (fun _ _ _ h => h) (Or.inl ⟨by rfl, ?_⟩) hHeld ?_ ?_
    rotate_left
    ·rintro w' ⟨s0, s1, s2, s3, s4, s5⟩
     go_simp
     with_reducible rfl
    rotate_left
    ·simp only [Act.put, sA, sZ, sS, i64_w, i32_w]
     rfl
    refine pure_ (i := 11) (N := some 37) (v := ?_) (a' := ?_) (bs 26 4095) rfl rfl (any_of HT_.out (by kernel_rfl)) (fun _ _ _ h => h) (Or.inl ⟨by rfl, ?_⟩) ?_ ?_
    rotate_left
    ·intro w'
     go_simp
     with_reducible rfl
    rotate_left
    ·simp only [Act.put, sA, sZ, sS, i64_w, i32_w]
     rfl
    refine pure_ (i := 12) (N := some 38) (v := ?_) (a' := ?_) (bs 26 8191) rfl rfl (any_of HT_.out (by kernel_rfl)) (fun _ _ _ h => h) (Or.inl ⟨by rfl, ?_⟩) ?_ ?_
    rotate_left
    ·intro w'
     go_simp
     with_reducible rfl
    rotate_left
    ·simp only [Act.put, sA, sZ, sS, i64_w, i32_w]
     rfl
    refine pure_ (i := 13) (N := some 39) (v := ?_) (a' := ?_) (bs 26 16383) rfl rfl (any_of HT_.out (by kernel_rfl)) (fun _ _ _ h => h) (Or.inl ⟨by rfl, ?_⟩) ?_ ?_
    rotate_left
    ·intro w'
     go_simp
     with_reducible rfl
    rotate_left
    ·simp only [Act.put, sA, sZ, sS, i64_w, i32_w]
     rfl
    refine pure_ (i := 14) (N := some 40) (v := undef) (a' := ?_) (bs 26 32767) rfl rfl (any_of HT_.out (by kernel_rfl)) (fun _ _ _ h => h) (Or.inr ⟨by rfl, rfl⟩) ?_ ?_
    rotate_left
    ·simp only [Act.put, sA, sZ, sS, i64_w, i32_w]
     rfl
    refine pure_ (i := 15) (N := some 41) (v := undef) (a' := ?_) (bs 26 65535) rfl rfl (any_of HT_.out (by kernel_rfl)) (fun _ _ _ h => h) (Or.inr ⟨by rfl, rfl⟩) ?_ ?_
    rotate_left
    ·simp only [Act.put, sA, sZ, sS, i64_w, i32_w]
     rfl
    refine pure_ (i := 16) (N := some 42) (v := undef) (a' := ?_) (bs 26 131071) rfl rfl (any_of HT_.out (by kernel_rfl)) (fun _ _ _ h => h) (Or.inr ⟨by rfl, rfl⟩) ?_ ?_
    rotate_left
    ·simp only [Act.put, sA, sZ, sS, i64_w, i32_w]
     rfl
    refine pure_ (i := 17) (N := some 43) (v := undef) (a' := ?_) (bs 26 262143) rfl rfl (any_of HT_.out (by kernel_rfl)) (fun _ _ _ h => h) (Or.inr ⟨by rfl, rfl⟩) ?_ ?_
    rotate_left
    ·simp only [Act.put, sA, sZ, sS, i64_w, i32_w]
     rfl
    refine pure_ (i := 18) (N := some 44) (v := undef) (a' := ?_) (bs 26 524287) rfl rfl (any_of HT_.out (by kernel_rfl)) (fun _ _ _ h => h) (Or.inr ⟨by rfl, rfl⟩) ?_ ?_
    rotate_left
    ·simp only [Act.put, sA, sZ, sS, i64_w, i32_w]
     rfl
    refine pure_ (i := 19) (N := some 45) (v := undef) (a' := ?_) (bs 26 1048575) rfl rfl (any_of HT_.out (by kernel_rfl)) (fun _ _ _ h => h) (Or.inr ⟨by rfl, rfl⟩) ?_ ?_
    rotate_left
    ·simp only [Act.put, sA, sZ, sS, i64_w, i32_w]
     rfl
    refine pure_ (i := 20) (N := some 46) (v := undef) (a' := ?_) (bs 26 2097151) rfl rfl (any_of HT_.out (by kernel_rfl)) (fun _ _ _ h => h) (Or.inr ⟨by rfl, rfl⟩) ?_ ?_
    rotate_left
    ·simp only [Act.put, sA, sZ, sS, i64_w, i32_w]
     rfl
    refine pure_ (i := 21) (N := some 47) (v := undef) (a' := ?_) (bs 26 4194303) rfl rfl (any_of HT_.out (by kernel_rfl)) (fun _ _ _ h => h) (Or.inr ⟨by rfl, rfl⟩) ?_ ?_
    rotate_left
    ·simp only [Act.put, sA, sZ, sS, i64_w, i32_w]
     rfl
    refine pure_ (i := 22) (N := some 48) (v := undef) (a' := ?_) (bs 26 8388607) rfl rfl (any_of HT_.out (by kernel_rfl)) (fun _ _ _ h => h) (Or.inr ⟨by rfl, rfl⟩) ?_ ?_
    rotate_left
    ·simp only [Act.put, sA, sZ, sS, i64_w, i32_w]
     rfl
    refine pure_ (i := 23) (N := some 49) (v := undef) (a' := ?_) (bs 26 16777215) rfl rfl (any_of HT_.out (by kernel_rfl)) (fun _ _ _ h => h) (Or.inr ⟨by rfl, rfl⟩) ?_ ?_
    rotate_left
    ·simp only [Act.put, sA, sZ, sS, i64_w, i32_w]
     rfl
    refine pure_ (i := 24) (N := some 50) (v := ?_) (a' := ?_) (bs 26 33554431) rfl rfl (any_of HT_.out (by kernel_rfl)) (fun _ _ _ h => h) (Or.inl ⟨by rfl, ?_⟩) ?_ ?_
    rotate_left
    ·intro w'
     go_simp
     with_reducible rfl
    rotate_left
    ·simp only [Act.put, sA, sZ, sS, i64_w, i32_w]
     rfl
    refine pure_ (i := 25) (N := some 51) (v := ?_) (a' := ?_) (bs 26 67108863) rfl rfl (any_of HT_.out (by kernel_rfl)) (fun _ _ _ h => h) (Or.inl ⟨by rfl, ?_⟩) ?_ ?_
    rotate_left
    ·intro w'
     go_simp
     with_reducible rfl
    rotate_left
    ·simp only [Act.put, sA, sZ, sS, i64_w, i32_w]
     rfl
    refine done_ (done_of HT_.out (by kernel_rfl)) ?_
    try go_wp2
    go_roundg k1
    case measure => have := HK1.out; omega
    case rel => exact ⟨(wrap64 (x6_1 + 1)), (wrap64 (x19_1 + 1)), (by first | rfl | (simp; done) | (simp [*]; done)), (by first | rfl | (simp; done) | (simp [*]; done)), H', ⟨by have := HK1.out; omega⟩, ⟨by repeat (first | (with_reducible first | exact HB.out | apply bA | apply bN | apply bD | refine below_set ?_ GE156.out) | exact HB.out)⟩⟩
   rw [if_pos c33] at H
   have c33b0 : (((rd_T63 l1 x19_1).f0) == 3) = true := beq_iff_eq.mpr c33
   have c33b1 : (((rd_T63 l1 x19_1).f0) != 3) = false := bne_eq_false_iff_eq.mpr c33
   clear c33
   by_cases c34 : 0 ≤ x6_1
   rotate_left
   ·rw [if_neg c34] at H
    exact absurd H (by simp)
   rw [if_pos c34] at H
   have c34b0 : decide (0 ≤ x6_1) = true := decide_eq_true c34
   clear c34
   by_cases c35 : x6_1 < (l0.length : Int)
   rotate_left
   ·rw [if_neg c35] at H
    exact absurd H (by simp)
   rw [if_pos c35] at H
   have c35b0 : decide (x6_1 < (l0.length : Int)) = true := decide_eq_true c35
   clear c35
   replace H := Option.bind_eq_some_iff.mp H
   obtain ⟨t160, A360, H⟩ := H
   replace H : (if t160 = ((rd_T63 l1 x19_1).f0) then (compare_fits.l0 k1 l0 (wrap64 (x6_1 + 1)) l1 (l1.length : Int) (wrap64 (x19_1 + 1))) else (some 7)) = some r := H
   have A36 := aS A360
   clear A360
   by_cases c37 : t160 = ((rd_T63 l1 x19_1).f0)
   rotate_left
   ·rw [if_neg c37] at H
    have c37b0 : (t160 == ((rd_T63 l1 x19_1).f0)) = false := beq_eq_false_iff_ne.mpr c37
    have c37b1 : (t160 != ((rd_T63 l1 x19_1).f0)) = true := bne_iff_ne.mpr c37
    obtain rfl := Option.some.inj H
    have p155 : 0 ≤ (x19_1 : Int) := of_decide_eq_true (by first | (with_reducible assumption) | assumption)
    have q155 : x19_1 < (l1.length : Int) := of_decide_eq_true (by first | (with_reducible assumption) | assumption)
    obtain ⟨ad155, e155, hx155_0, hx155_1, hx155_2, hx155_3, hx155_4, hx155_5⟩ := at_T63 HR1.out x19_1 p155 q155
    cases e155
    replace hx155_0 := hup HB.out hx155_0
    replace hx155_1 := hup HB.out hx155_1
    replace hx155_2 := hup HB.out hx155_2
    replace hx155_3 := hup HB.out hx155_3
    replace hx155_4 := hup HB.out hx155_4
    replace hx155_5 := hup HB.out hx155_5
    replace p155 := eq_true p155
    replace q155 := eq_true q155
    try go_wp2_with (first | ((with_reducible refine gate_dst (N := 8) rfl ?_); refine box_event ?hg (N := 8) ?hd (cs := #[.int .i64 0, .string (⟨#[]⟩ : ByteArray), .int .i64 0, .bool false, .bool false, .bool false]) (t := 63) ?hr ?_; (case hd => rfl); (case hg => rfl); (case hr => first | (go_simp; done) | (go_simp; rfl)); intro gb156 hg w43 hbox hb; have n0_ := aS (below_step (by first | exact bel HB.out | exact HB.out) hb); have n1_ := aS (hbox); have n2_ := aS ((by rw [hg]; exact (below_size (by first | exact bel HB.out | exact HB.out)) : w.heap.size ≤ gb156)); have n3_ := aS ((by rw [hg]; exact (below_size (by first | exact bel HB.out | exact HB.out)) : w.heap.size ≤ gb156)); clear HB; have HB := n0_; have BK156 := n1_; have GW156 := n2_; have GE156 := n3_; clear n0_ n1_ n2_ n3_; clear hb hbox hg; have hcz44_0 : w43.cell? ⟨gb156, 0, none⟩ = some (.int .i64 0) := (blk_cell BK156.out 0).trans rfl; have hcz44_1 : w43.cell? ⟨gb156, 1, none⟩ = some (.string (⟨#[]⟩ : ByteArray)) := (blk_cell BK156.out 1).trans rfl; have hcz44_2 : w43.cell? ⟨gb156, 2, none⟩ = some (.int .i64 0) := (blk_cell BK156.out 2).trans rfl; have hcz44_3 : w43.cell? ⟨gb156, 3, none⟩ = some (.bool false) := (blk_cell BK156.out 3).trans rfl; have hcz44_4 : w43.cell? ⟨gb156, 4, none⟩ = some (.bool false) := (blk_cell BK156.out 4).trans rfl; have hcz44_5 : w43.cell? ⟨gb156, 5, none⟩ = some (.bool false) := (blk_cell BK156.out 5).trans rfl; have hfz44_0 := blk_frozen BK156.out 0; have hfz44_1 := blk_frozen BK156.out 1; have hfz44_2 := blk_frozen BK156.out 2; have hfz44_3 := blk_frozen BK156.out 3; have hfz44_4 := blk_frozen BK156.out 4; have hfz44_5 := blk_frozen BK156.out 5))
    have n0_ : Aside0 (((((((w43.setCell ⟨gb156, 0, none⟩ (.int .i64 ((rd_T63 l1 x19_1).f0))).setCell ⟨gb156, 1, none⟩ (.string ((rd_T63 l1 x19_1).f1.f0))).setCell ⟨gb156, 2, none⟩ (.int .i64 ((rd_T63 l1 x19_1).f1.f1))).setCell ⟨gb156, 3, none⟩ (.bool ((rd_T63 l1 x19_1).f1.f2))).setCell ⟨gb156, 4, none⟩ (.bool ((rd_T63 l1 x19_1).f1.f3))).setCell ⟨gb156, 5, none⟩ (.bool ((rd_T63 l1 x19_1).f1.f4))).heap[gb156]? = some (.cells #[.int .i64 ((rd_T63 l1 x19_1).f0), .string ((rd_T63 l1 x19_1).f1.f0), .int .i64 ((rd_T63 l1 x19_1).f1.f1), .bool ((rd_T63 l1 x19_1).f1.f2), .bool ((rd_T63 l1 x19_1).f1.f3), .bool ((rd_T63 l1 x19_1).f1.f4)] 63 (0, 0))) := ⟨by (with_reducible repeat (first | refine blk_drewN ?_ _ | refine blk_drew ?_ | refine blk_alloc ?_ _)); refine blk_put (cs := #[.int .i64 ((rd_T63 l1 x19_1).f0), .string ((rd_T63 l1 x19_1).f1.f0), .int .i64 ((rd_T63 l1 x19_1).f1.f1), .bool ((rd_T63 l1 x19_1).f1.f2), .bool ((rd_T63 l1 x19_1).f1.f3), .bool false]) ?_ 5 _ rfl; (with_reducible repeat (first | refine blk_drewN ?_ _ | refine blk_drew ?_ | refine blk_alloc ?_ _)); refine blk_put (cs := #[.int .i64 ((rd_T63 l1 x19_1).f0), .string ((rd_T63 l1 x19_1).f1.f0), .int .i64 ((rd_T63 l1 x19_1).f1.f1), .bool ((rd_T63 l1 x19_1).f1.f2), .bool false, .bool false]) ?_ 4 _ rfl; (with_reducible repeat (first | refine blk_drewN ?_ _ | refine blk_drew ?_ | refine blk_alloc ?_ _)); refine blk_put (cs := #[.int .i64 ((rd_T63 l1 x19_1).f0), .string ((rd_T63 l1 x19_1).f1.f0), .int .i64 ((rd_T63 l1 x19_1).f1.f1), .bool false, .bool false, .bool false]) ?_ 3 _ rfl; (with_reducible repeat (first | refine blk_drewN ?_ _ | refine blk_drew ?_ | refine blk_alloc ?_ _)); refine blk_put (cs := #[.int .i64 ((rd_T63 l1 x19_1).f0), .string ((rd_T63 l1 x19_1).f1.f0), .int .i64 0, .bool false, .bool false, .bool false]) ?_ 2 _ rfl; (with_reducible repeat (first | refine blk_drewN ?_ _ | refine blk_drew ?_ | refine blk_alloc ?_ _)); refine blk_put (cs := #[.int .i64 ((rd_T63 l1 x19_1).f0), .string (⟨#[]⟩ : ByteArray), .int .i64 0, .bool false, .bool false, .bool false]) ?_ 1 _ rfl; (with_reducible repeat (first | refine blk_drewN ?_ _ | refine blk_drew ?_ | refine blk_alloc ?_ _)); refine blk_put (cs := #[.int .i64 0, .string (⟨#[]⟩ : ByteArray), .int .i64 0, .bool false, .bool false, .bool false]) ?_ 0 _ rfl; (with_reducible repeat (first | refine blk_drewN ?_ _ | refine blk_drew ?_ | refine blk_alloc ?_ _)); exact BK156.out⟩
    have n1_ : Aside0 (Below w.heap.size w ((((((w43.setCell ⟨gb156, 0, none⟩ (.int .i64 ((rd_T63 l1 x19_1).f0))).setCell ⟨gb156, 1, none⟩ (.string ((rd_T63 l1 x19_1).f1.f0))).setCell ⟨gb156, 2, none⟩ (.int .i64 ((rd_T63 l1 x19_1).f1.f1))).setCell ⟨gb156, 3, none⟩ (.bool ((rd_T63 l1 x19_1).f1.f2))).setCell ⟨gb156, 4, none⟩ (.bool ((rd_T63 l1 x19_1).f1.f3))).setCell ⟨gb156, 5, none⟩ (.bool ((rd_T63 l1 x19_1).f1.f4)))) := ⟨by repeat (first | (with_reducible first | exact HB.out | apply bA | apply bN | apply bD | refine below_set ?_ GE156.out) | exact HB.out)⟩
    (try clear BK156)
    (try clear HB)
    generalize ((((((w43.setCell ⟨gb156, 0, none⟩ (.int .i64 ((rd_T63 l1 x19_1).f0))).setCell ⟨gb156, 1, none⟩ (.string ((rd_T63 l1 x19_1).f1.f0))).setCell ⟨gb156, 2, none⟩ (.int .i64 ((rd_T63 l1 x19_1).f1.f1))).setCell ⟨gb156, 3, none⟩ (.bool ((rd_T63 l1 x19_1).f1.f2))).setCell ⟨gb156, 4, none⟩ (.bool ((rd_T63 l1 x19_1).f1.f3))).setCell ⟨gb156, 5, none⟩ (.bool ((rd_T63 l1 x19_1).f1.f4))) = w45 at n0_ n1_ ⊢
    have BK156 := n0_
    have HB := n1_
    clear n0_ n1_
    have n0_ := aS (blk_drew BK156.out)
    have n1_ := aS (below_drew1 HB.out)
    clear BK156
    clear HB
    have BK156 := n0_
    have HB := n1_
    clear n0_ n1_
    have p159 : 0 ≤ (x6_1 : Int) := of_decide_eq_true (by first | (with_reducible assumption) | assumption)
    have q159 : x6_1 < (l0.length : Int) := of_decide_eq_true (by first | (with_reducible assumption) | assumption)
    obtain ⟨ad159, e159, hx159_0, hx159_1, hx159_2, hx159_3, hx159_4⟩ := at_T50 HR0.out x6_1 p159 q159
    have hw159_4 := hx159_4
    have hw159_3 := hx159_3
    have hw159_2 := hx159_2
    have hw159_1 := hx159_1
    have hw159_0 := hx159_0
    cases e159
    replace hx159_0 := hup HB.out hx159_0
    replace hx159_1 := hup HB.out hx159_1
    replace hx159_2 := hup HB.out hx159_2
    replace hx159_3 := hup HB.out hx159_3
    replace hx159_4 := hup HB.out hx159_4
    replace p159 := eq_true p159
    replace q159 := eq_true q159
    refine start_ (n := 26) (S := fun w' => w'.cell? ⟨gb156, 0, none⟩ = some (.int .i64 ((rd_T63 l1 x19_1).f0)) ∧ w'.cell? ⟨gb156, 1, none⟩ = some (.string ((rd_T63 l1 x19_1).f1.f0)) ∧ w'.cell? ⟨gb156, 2, none⟩ = some (.int .i64 ((rd_T63 l1 x19_1).f1.f1)) ∧ w'.cell? ⟨gb156, 3, none⟩ = some (.bool ((rd_T63 l1 x19_1).f1.f2)) ∧ w'.cell? ⟨gb156, 4, none⟩ = some (.bool ((rd_T63 l1 x19_1).f1.f3)) ∧ w'.cell? ⟨gb156, 5, none⟩ = some (.bool ((rd_T63 l1 x19_1).f1.f4)) ∧ w'.cell? (ad159.add ((x6_1).toNat * 5)) = some (.string ((rd_T50 l0 x6_1).f0)) ∧ w'.cell? ⟨(ad159.add ((x6_1).toNat * 5)).block, (ad159.add ((x6_1).toNat * 5)).off + 1, none⟩ = some (.int .i64 ((rd_T50 l0 x6_1).f1)) ∧ w'.cell? ⟨(ad159.add ((x6_1).toNat * 5)).block, (ad159.add ((x6_1).toNat * 5)).off + 2, none⟩ = some (.bool ((rd_T50 l0 x6_1).f2)) ∧ w'.cell? ⟨(ad159.add ((x6_1).toNat * 5)).block, (ad159.add ((x6_1).toNat * 5)).off + 3, none⟩ = some (.bool ((rd_T50 l0 x6_1).f3)) ∧ w'.cell? ⟨(ad159.add ((x6_1).toNat * 5)).block, (ad159.add ((x6_1).toNat * 5)).off + 4, none⟩ = some (.bool ((rd_T50 l0 x6_1).f4))) (ds := []) #[false, false, false, false, false, false, false, false, false, false, false, false, false, false, false, false, false, false, false, false, false, false, false, false, false, false] (by kernel_rfl) rfl rfl ⟨(blk_cell BK156.out 0).trans rfl, (blk_cell BK156.out 1).trans rfl, (blk_cell BK156.out 2).trans rfl, (blk_cell BK156.out 3).trans rfl, (blk_cell BK156.out 4).trans rfl, (blk_cell BK156.out 5).trans rfl, (hup HB.out hw159_0), (hup HB.out hw159_1), (hup HB.out hw159_2), (hup HB.out hw159_3), (hup HB.out hw159_4)⟩ (fun hHeld => ?_); refine with_tabW compare_fits.tab11 compare_fits.bits11 (fun HT_ HW_ => ?_)
    generalize w45.drew = w46 at BK156 HB hx159_0 hx159_1 hx159_2 hx159_3 hx159_4 hHeld ⊢
    refine pure_ (i := 0) (N := some 26) (v := ?_) (a' := ?_) (bs 26 1) rfl rfl (any_of HT_.out (by kernel_rfl)) (fun _ _ _ h => h) (Or.inl ⟨by rfl, ?_⟩) ?_ ?_
    rotate_left
    ·intro w'
     go_simp
     with_reducible rfl
    rotate_left
    ·simp only [Act.put, sA, sZ, sS, i64_w, i32_w]
     rfl
    refine pure_ (i := 1) (N := some 27) (v := ?_) (a' := ?_) (bs 26 3) rfl rfl (any_of HT_.out (by kernel_rfl)) (fun _ _ _ h => h) (Or.inl ⟨by rfl, ?_⟩) ?_ ?_
    rotate_left
    ·intro w'
     go_simp
     with_reducible rfl
    rotate_left
    ·simp only [Act.put, sA, sZ, sS, i64_w, i32_w]
     rfl
    refine pure_ (i := 2) (N := some 28) (v := ?_) (a' := ?_) (bs 26 7) rfl rfl (any_of HT_.out (by kernel_rfl)) (fun _ _ _ h => h) (Or.inl ⟨by rfl, ?_⟩) ?_ ?_
    rotate_left
    ·intro w'
     go_simp
     with_reducible rfl
    rotate_left
    ·simp only [Act.put, sA, sZ, sS, i64_w, i32_w]
     rfl
    refine pure_ (i := 3) (N := some 29) (v := ?_) (a' := ?_) (bs 26 15) rfl rfl (any_of HT_.out (by kernel_rfl)) (fun _ _ _ h => h) (Or.inl ⟨by rfl, ?_⟩) ?_ ?_
    rotate_left
    ·intro w'
     go_simp
     with_reducible rfl
    rotate_left
    ·simp only [Act.put, sA, sZ, sS, i64_w, i32_w]
     rfl
    refine pure_ (i := 4) (N := some 30) (v := ?_) (a' := ?_) (bs 26 31) rfl rfl (any_of HT_.out (by kernel_rfl)) (fun _ _ _ h => h) (Or.inl ⟨by rfl, ?_⟩) ?_ ?_
    rotate_left
    ·intro w'
     go_simp
     with_reducible rfl
    rotate_left
    ·simp only [Act.put, sA, sZ, sS, i64_w, i32_w]
     rfl
    refine pure_ (i := 5) (N := some 31) (v := ?_) (a' := ?_) (bs 26 63) rfl rfl (any_of HT_.out (by kernel_rfl)) (fun _ _ _ h => h) (Or.inl ⟨by rfl, ?_⟩) ?_ ?_
    rotate_left
    ·intro w'
     go_simp
     with_reducible rfl
    rotate_left
    ·simp only [Act.put, sA, sZ, sS, i64_w, i32_w]
     rfl
    refine take_ (i := 6) (N := some 32) (v := ?_) (a' := ?_) (bs 26 127) rfl rfl (take_ofW HT_.out HW_.out (by kernel_rfl)) (fun _ _ _ h => h) (Or.inl ⟨by rfl, ?_⟩) hHeld ?_ ?_
    rotate_left
    ·rintro w' ⟨s0, s1, s2, s3, s4, s5, s6, s7, s8, s9, s10⟩
     go_simp
     with_reducible rfl
    rotate_left
    ·simp only [Act.put, sA, sZ, sS, i64_w, i32_w]
     rfl
    refine pure_ (i := 7) (N := some 33) (v := ?_) (a' := ?_) (bs 26 255) rfl rfl (any_of HT_.out (by kernel_rfl)) (fun _ _ _ h => h) (Or.inl ⟨by rfl, ?_⟩) ?_ ?_
    rotate_left
    ·intro w'
     go_simp
     with_reducible rfl
    rotate_left
    ·simp only [Act.put, sA, sZ, sS, i64_w, i32_w]
     rfl
    refine pure_ (i := 8) (N := some 34) (v := ?_) (a' := ?_) (bs 26 511) rfl rfl (any_of HT_.out (by kernel_rfl)) (fun _ _ _ h => h) (Or.inl ⟨by rfl, ?_⟩) ?_ ?_
    rotate_left
    ·intro w'
     go_simp
     with_reducible rfl
    rotate_left
    ·simp only [Act.put, sA, sZ, sS, i64_w, i32_w]
     rfl
    refine pure_ (i := 9) (N := some 35) (v := ?_) (a' := ?_) (bs 26 1023) rfl rfl (any_of HT_.out (by kernel_rfl)) (fun _ _ _ h => h) (Or.inl ⟨by rfl, ?_⟩) ?_ ?_
    rotate_left
    ·intro w'
     go_simp
     with_reducible rfl
    rotate_left
    ·simp only [Act.put, sA, sZ, sS, i64_w, i32_w]
     rfl
    refine take_ (i := 10) (N := some 36) (v := ?_) (a' := ?_) (bs 26 2047) rfl rfl (take_ofW HT_.out HW_.out (by kernel_rfl)) (fun _ _ _ h => h) (Or.inl ⟨by rfl, ?_⟩) hHeld ?_ ?_
    rotate_left
    ·rintro w' ⟨s0, s1, s2, s3, s4, s5, s6, s7, s8, s9, s10⟩
     go_simp
     with_reducible rfl
    rotate_left
    ·simp only [Act.put, sA, sZ, sS, i64_w, i32_w]
     rfl
    refine pure_ (i := 11) (N := some 37) (v := ?_) (a' := ?_) (bs 26 4095) rfl rfl (any_of HT_.out (by kernel_rfl)) (fun _ _ _ h => h) (Or.inl ⟨by rfl, ?_⟩) ?_ ?_
    rotate_left
    ·intro w'
     go_simp
     with_reducible rfl
    rotate_left
    ·simp only [Act.put, sA, sZ, sS, i64_w, i32_w]
     rfl
    refine pure_ (i := 12) (N := some 38) (v := ?_) (a' := ?_) (bs 26 8191) rfl rfl (any_of HT_.out (by kernel_rfl)) (fun _ _ _ h => h) (Or.inl ⟨by rfl, ?_⟩) ?_ ?_
    rotate_left
    ·intro w'
     go_simp
     with_reducible rfl
    rotate_left
    ·simp only [Act.put, sA, sZ, sS, i64_w, i32_w]
     rfl
    refine pure_ (i := 13) (N := some 39) (v := ?_) (a' := ?_) (bs 26 16383) rfl rfl (any_of HT_.out (by kernel_rfl)) (fun _ _ _ h => h) (Or.inl ⟨by rfl, ?_⟩) ?_ ?_
    rotate_left
    ·intro w'
     go_simp
     with_reducible rfl
    rotate_left
    ·simp only [Act.put, sA, sZ, sS, i64_w, i32_w]
     rfl
    refine pure_ (i := 14) (N := some 40) (v := ?_) (a' := ?_) (bs 26 32767) rfl rfl (any_of HT_.out (by kernel_rfl)) (fun _ _ _ h => h) (Or.inl ⟨by rfl, ?_⟩) ?_ ?_
    rotate_left
    ·intro w'
     go_simp
     with_reducible rfl
    rotate_left
    ·simp only [Act.put, sA, sZ, sS, i64_w, i32_w]
     rfl
    refine pure_ (i := 15) (N := some 41) (v := ?_) (a' := ?_) (bs 26 65535) rfl rfl (any_of HT_.out (by kernel_rfl)) (fun _ _ _ h => h) (Or.inl ⟨by rfl, ?_⟩) ?_ ?_
    rotate_left
    ·intro w'
     go_simp
     with_reducible rfl
    rotate_left
    ·simp only [Act.put, sA, sZ, sS, i64_w, i32_w]
     rfl
    refine pure_ (i := 16) (N := some 42) (v := ?_) (a' := ?_) (bs 26 131071) rfl rfl (any_of HT_.out (by kernel_rfl)) (fun _ _ _ h => h) (Or.inl ⟨by rfl, ?_⟩) ?_ ?_
    rotate_left
    ·intro w'
     go_simp
     with_reducible rfl
    rotate_left
    ·simp only [Act.put, sA, sZ, sS, i64_w, i32_w]
     rfl
    refine pure_ (i := 18) (N := some 44) (v := ?_) (a' := ?_) (bs 26 393215) rfl rfl (any_of HT_.out (by kernel_rfl)) (fun _ _ _ h => h) (Or.inl ⟨by rfl, ?_⟩) ?_ ?_
    rotate_left
    ·intro w'
     go_simp
     with_reducible rfl
    rotate_left
    ·simp only [Act.put, sA, sZ, sS, i64_w, i32_w]
     rfl
    refine pure_ (i := 21) (N := some 47) (v := ?_) (a' := ?_) (bs 26 2490367) rfl rfl (any_of HT_.out (by kernel_rfl)) (fun _ _ _ h => h) (Or.inl ⟨by rfl, ?_⟩) ?_ ?_
    rotate_left
    ·intro w'
     go_simp
     with_reducible rfl
    rotate_left
    ·simp only [Act.put, sA, sZ, sS, i64_w, i32_w]
     rfl
    refine take_ (i := 17) (N := some 43) (v := ?_) (a' := ?_) (bs 26 2621439) rfl rfl (take_ofW HT_.out HW_.out (by kernel_rfl)) (fun _ _ _ h => h) (Or.inl ⟨by rfl, ?_⟩) hHeld ?_ ?_
    rotate_left
    ·rintro w' ⟨s0, s1, s2, s3, s4, s5, s6, s7, s8, s9, s10⟩
     go_simp
     with_reducible rfl
    rotate_left
    ·simp only [Act.put, sA, sZ, sS, i64_w, i32_w]
     rfl
    refine take_ (i := 19) (N := some 45) (v := ?_) (a' := ?_) (bs 26 3145727) rfl rfl (take_ofW HT_.out HW_.out (by kernel_rfl)) (fun _ _ _ h => h) (Or.inl ⟨by rfl, ?_⟩) hHeld ?_ ?_
    rotate_left
    ·rintro w' ⟨s0, s1, s2, s3, s4, s5, s6, s7, s8, s9, s10⟩
     go_simp
     with_reducible rfl
    rotate_left
    ·simp only [Act.put, sA, sZ, sS, i64_w, i32_w]
     rfl
    refine take_ (i := 22) (N := some 48) (v := ?_) (a' := ?_) (bs 26 7340031) rfl rfl (take_ofW HT_.out HW_.out (by kernel_rfl)) (fun _ _ _ h => h) (Or.inl ⟨by rfl, ?_⟩) hHeld ?_ ?_
    rotate_left
    ·rintro w' ⟨s0, s1, s2, s3, s4, s5, s6, s7, s8, s9, s10⟩
     go_simp
     with_reducible rfl
    rotate_left
    ·simp only [Act.put, sA, sZ, sS, i64_w, i32_w]
     rfl
    refine one_ (i := 20) (N := some 46) (bs 26 8388607) rfl rfl (one_of HT_.out (by kernel_rfl)) (by decide) (fun K hK => ?_)
    refine goes_ Try.func35 (by kernel_rfl) rfl #[.agg #[.string ((rd_T50 l0 x6_1).f0), .int .i64 ((rd_T50 l0 x6_1).f1), .bool ((rd_T50 l0 x6_1).f2), .bool ((rd_T50 l0 x6_1).f3), .bool ((rd_T50 l0 x6_1).f4)], .agg #[.string ((rd_T63 l1 x19_1).f1.f0), .int .i64 ((rd_T63 l1 x19_1).f1.f1), .bool ((rd_T63 l1 x19_1).f1.f2), .bool ((rd_T63 l1 x19_1).f1.f3), .bool ((rd_T63 l1 x19_1).f1.f4)]] (by rfl) rfl rfl (by (try simp only [List.map_toArray, List.map_cons, List.map_nil]); first | done | rfl | (simp only [List.length_drop, List.length_take]; rfl)) ?_
    with_reducible refine (compare_taking.calls ((rd_T50 l0 x6_1).f0) ((rd_T50 l0 x6_1).f1) ((rd_T50 l0 x6_1).f2) ((rd_T50 l0 x6_1).f3) ((rd_T50 l0 x6_1).f4) ((rd_T63 l1 x19_1).f1.f0) ((rd_T63 l1 x19_1).f1.f1) ((rd_T63 l1 x19_1).f1.f2) ((rd_T63 l1 x19_1).f1.f3) ((rd_T63 l1 x19_1).f1.f4) t160 _ A36.out).mono ?_
    rintro e w47 ⟨rfl, hb⟩
    refine ⟨_, rfl, ?_⟩
    have n0_ := aS (blk_below (g := gb156) (o := .cells #[.int .i64 ((rd_T63 l1 x19_1).f0), .string ((rd_T63 l1 x19_1).f1.f0), .int .i64 ((rd_T63 l1 x19_1).f1.f1), .bool ((rd_T63 l1 x19_1).f1.f2), .bool ((rd_T63 l1 x19_1).f1.f3), .bool ((rd_T63 l1 x19_1).f1.f4)] 63 (0, 0)) (by (with_reducible repeat (first | refine blk_drewN ?_ _ | refine blk_drew ?_ | refine blk_alloc ?_ _)); exact BK156.out) hb)
    have n1_ := aS (below_step (by repeat (first | (with_reducible first | exact HB.out | apply bA | apply bN | apply bD | refine below_set ?_ GE156.out) | exact HB.out)) hb)
    clear BK156
    clear HB
    have BK156 := n0_
    have HB := n1_
    clear n0_ n1_
    (try clear hb)
    (try clear hb2)
    (try clear hk)
    (try clear hi)
    refine hK.out _ _ ⟨(blk_cell BK156.out 0).trans rfl, (blk_cell BK156.out 1).trans rfl, (blk_cell BK156.out 2).trans rfl, (blk_cell BK156.out 3).trans rfl, (blk_cell BK156.out 4).trans rfl, (blk_cell BK156.out 5).trans rfl, (hup HB.out hw159_0), (hup HB.out hw159_1), (hup HB.out hw159_2), (hup HB.out hw159_3), (hup HB.out hw159_4)⟩ (fun hHeld => ?_)
    clear hK K
    refine norm_ (a' := ?_) ?_ ?_
    rotate_left
    ·show Act.put _ (some 46) _ = _
     simp only [Act.put, sA, sZ, sS, i64_w, i32_w]
     rfl
    refine pure_ (i := 23) (N := some 49) (v := ?_) (a' := ?_) (bs 26 16777215) rfl rfl (any_of HT_.out (by kernel_rfl)) (fun _ _ _ h => h) (Or.inl ⟨by rfl, ?_⟩) ?_ ?_
    rotate_left
    ·intro w'
     go_simp
     with_reducible rfl
    rotate_left
    ·simp only [Act.put, sA, sZ, sS, i64_w, i32_w]
     rfl
    refine pure_ (i := 24) (N := some 50) (v := ?_) (a' := ?_) (bs 26 33554431) rfl rfl (any_of HT_.out (by kernel_rfl)) (fun _ _ _ h => h) (Or.inl ⟨by rfl, ?_⟩) ?_ ?_
    rotate_left
    ·intro w'
     go_simp
     with_reducible rfl
    rotate_left
    ·simp only [Act.put, sA, sZ, sS, i64_w, i32_w]
     rfl
    refine pure_ (i := 25) (N := some 51) (v := ?_) (a' := ?_) (bs 26 67108863) rfl rfl (any_of HT_.out (by kernel_rfl)) (fun _ _ _ h => h) (Or.inl ⟨by rfl, ?_⟩) ?_ ?_
    rotate_left
    ·intro w'
     go_simp
     with_reducible rfl
    rotate_left
    ·simp only [Act.put, sA, sZ, sS, i64_w, i32_w]
     rfl
    refine done_ (done_of HT_.out (by kernel_rfl)) ?_
    try go_wp2
    go_ret
    exact ⟨by first | rfl | (simp [errW_none, errW_some] <;> rfl) | (simp [*, errW_none, errW_some] <;> rfl), by repeat (first | (with_reducible first | exact HB.out | apply bA | apply bN | apply bD | refine below_set ?_ GE156.out) | exact HB.out)⟩
   rw [if_pos c37] at H
   have c37b0 : (t160 == ((rd_T63 l1 x19_1).f0)) = true := beq_iff_eq.mpr c37
   have c37b1 : (t160 != ((rd_T63 l1 x19_1).f0)) = false := bne_eq_false_iff_eq.mpr c37
   clear c37
   have H' := aS H
   clear H
   have p155 : 0 ≤ (x19_1 : Int) := of_decide_eq_true (by first | (with_reducible assumption) | assumption)
   have q155 : x19_1 < (l1.length : Int) := of_decide_eq_true (by first | (with_reducible assumption) | assumption)
   obtain ⟨ad155, e155, hx155_0, hx155_1, hx155_2, hx155_3, hx155_4, hx155_5⟩ := at_T63 HR1.out x19_1 p155 q155
   cases e155
   replace hx155_0 := hup HB.out hx155_0
   replace hx155_1 := hup HB.out hx155_1
   replace hx155_2 := hup HB.out hx155_2
   replace hx155_3 := hup HB.out hx155_3
   replace hx155_4 := hup HB.out hx155_4
   replace hx155_5 := hup HB.out hx155_5
   replace p155 := eq_true p155
   replace q155 := eq_true q155
   try go_wp2_with (first | ((with_reducible refine gate_dst (N := 8) rfl ?_); refine box_event ?hg (N := 8) ?hd (cs := #[.int .i64 0, .string (⟨#[]⟩ : ByteArray), .int .i64 0, .bool false, .bool false, .bool false]) (t := 63) ?hr ?_; (case hd => rfl); (case hg => rfl); (case hr => first | (go_simp; done) | (go_simp; rfl)); intro gb156 hg w38 hbox hb; have n0_ := aS (below_step (by first | exact bel HB.out | exact HB.out) hb); have n1_ := aS (hbox); have n2_ := aS ((by rw [hg]; exact (below_size (by first | exact bel HB.out | exact HB.out)) : w.heap.size ≤ gb156)); have n3_ := aS ((by rw [hg]; exact (below_size (by first | exact bel HB.out | exact HB.out)) : w.heap.size ≤ gb156)); clear HB; have HB := n0_; have BK156 := n1_; have GW156 := n2_; have GE156 := n3_; clear n0_ n1_ n2_ n3_; clear hb hbox hg; have hcz39_0 : w38.cell? ⟨gb156, 0, none⟩ = some (.int .i64 0) := (blk_cell BK156.out 0).trans rfl; have hcz39_1 : w38.cell? ⟨gb156, 1, none⟩ = some (.string (⟨#[]⟩ : ByteArray)) := (blk_cell BK156.out 1).trans rfl; have hcz39_2 : w38.cell? ⟨gb156, 2, none⟩ = some (.int .i64 0) := (blk_cell BK156.out 2).trans rfl; have hcz39_3 : w38.cell? ⟨gb156, 3, none⟩ = some (.bool false) := (blk_cell BK156.out 3).trans rfl; have hcz39_4 : w38.cell? ⟨gb156, 4, none⟩ = some (.bool false) := (blk_cell BK156.out 4).trans rfl; have hcz39_5 : w38.cell? ⟨gb156, 5, none⟩ = some (.bool false) := (blk_cell BK156.out 5).trans rfl; have hfz39_0 := blk_frozen BK156.out 0; have hfz39_1 := blk_frozen BK156.out 1; have hfz39_2 := blk_frozen BK156.out 2; have hfz39_3 := blk_frozen BK156.out 3; have hfz39_4 := blk_frozen BK156.out 4; have hfz39_5 := blk_frozen BK156.out 5))
   have n0_ : Aside0 (((((((w38.setCell ⟨gb156, 0, none⟩ (.int .i64 ((rd_T63 l1 x19_1).f0))).setCell ⟨gb156, 1, none⟩ (.string ((rd_T63 l1 x19_1).f1.f0))).setCell ⟨gb156, 2, none⟩ (.int .i64 ((rd_T63 l1 x19_1).f1.f1))).setCell ⟨gb156, 3, none⟩ (.bool ((rd_T63 l1 x19_1).f1.f2))).setCell ⟨gb156, 4, none⟩ (.bool ((rd_T63 l1 x19_1).f1.f3))).setCell ⟨gb156, 5, none⟩ (.bool ((rd_T63 l1 x19_1).f1.f4))).heap[gb156]? = some (.cells #[.int .i64 ((rd_T63 l1 x19_1).f0), .string ((rd_T63 l1 x19_1).f1.f0), .int .i64 ((rd_T63 l1 x19_1).f1.f1), .bool ((rd_T63 l1 x19_1).f1.f2), .bool ((rd_T63 l1 x19_1).f1.f3), .bool ((rd_T63 l1 x19_1).f1.f4)] 63 (0, 0))) := ⟨by (with_reducible repeat (first | refine blk_drewN ?_ _ | refine blk_drew ?_ | refine blk_alloc ?_ _)); refine blk_put (cs := #[.int .i64 ((rd_T63 l1 x19_1).f0), .string ((rd_T63 l1 x19_1).f1.f0), .int .i64 ((rd_T63 l1 x19_1).f1.f1), .bool ((rd_T63 l1 x19_1).f1.f2), .bool ((rd_T63 l1 x19_1).f1.f3), .bool false]) ?_ 5 _ rfl; (with_reducible repeat (first | refine blk_drewN ?_ _ | refine blk_drew ?_ | refine blk_alloc ?_ _)); refine blk_put (cs := #[.int .i64 ((rd_T63 l1 x19_1).f0), .string ((rd_T63 l1 x19_1).f1.f0), .int .i64 ((rd_T63 l1 x19_1).f1.f1), .bool ((rd_T63 l1 x19_1).f1.f2), .bool false, .bool false]) ?_ 4 _ rfl; (with_reducible repeat (first | refine blk_drewN ?_ _ | refine blk_drew ?_ | refine blk_alloc ?_ _)); refine blk_put (cs := #[.int .i64 ((rd_T63 l1 x19_1).f0), .string ((rd_T63 l1 x19_1).f1.f0), .int .i64 ((rd_T63 l1 x19_1).f1.f1), .bool false, .bool false, .bool false]) ?_ 3 _ rfl; (with_reducible repeat (first | refine blk_drewN ?_ _ | refine blk_drew ?_ | refine blk_alloc ?_ _)); refine blk_put (cs := #[.int .i64 ((rd_T63 l1 x19_1).f0), .string ((rd_T63 l1 x19_1).f1.f0), .int .i64 0, .bool false, .bool false, .bool false]) ?_ 2 _ rfl; (with_reducible repeat (first | refine blk_drewN ?_ _ | refine blk_drew ?_ | refine blk_alloc ?_ _)); refine blk_put (cs := #[.int .i64 ((rd_T63 l1 x19_1).f0), .string (⟨#[]⟩ : ByteArray), .int .i64 0, .bool false, .bool false, .bool false]) ?_ 1 _ rfl; (with_reducible repeat (first | refine blk_drewN ?_ _ | refine blk_drew ?_ | refine blk_alloc ?_ _)); refine blk_put (cs := #[.int .i64 0, .string (⟨#[]⟩ : ByteArray), .int .i64 0, .bool false, .bool false, .bool false]) ?_ 0 _ rfl; (with_reducible repeat (first | refine blk_drewN ?_ _ | refine blk_drew ?_ | refine blk_alloc ?_ _)); exact BK156.out⟩
   have n1_ : Aside0 (Below w.heap.size w ((((((w38.setCell ⟨gb156, 0, none⟩ (.int .i64 ((rd_T63 l1 x19_1).f0))).setCell ⟨gb156, 1, none⟩ (.string ((rd_T63 l1 x19_1).f1.f0))).setCell ⟨gb156, 2, none⟩ (.int .i64 ((rd_T63 l1 x19_1).f1.f1))).setCell ⟨gb156, 3, none⟩ (.bool ((rd_T63 l1 x19_1).f1.f2))).setCell ⟨gb156, 4, none⟩ (.bool ((rd_T63 l1 x19_1).f1.f3))).setCell ⟨gb156, 5, none⟩ (.bool ((rd_T63 l1 x19_1).f1.f4)))) := ⟨by repeat (first | (with_reducible first | exact HB.out | apply bA | apply bN | apply bD | refine below_set ?_ GE156.out) | exact HB.out)⟩
   (try clear BK156)
   (try clear HB)
   generalize ((((((w38.setCell ⟨gb156, 0, none⟩ (.int .i64 ((rd_T63 l1 x19_1).f0))).setCell ⟨gb156, 1, none⟩ (.string ((rd_T63 l1 x19_1).f1.f0))).setCell ⟨gb156, 2, none⟩ (.int .i64 ((rd_T63 l1 x19_1).f1.f1))).setCell ⟨gb156, 3, none⟩ (.bool ((rd_T63 l1 x19_1).f1.f2))).setCell ⟨gb156, 4, none⟩ (.bool ((rd_T63 l1 x19_1).f1.f3))).setCell ⟨gb156, 5, none⟩ (.bool ((rd_T63 l1 x19_1).f1.f4))) = w40 at n0_ n1_ ⊢
   have BK156 := n0_
   have HB := n1_
   clear n0_ n1_
   have n0_ := aS (blk_drew BK156.out)
   have n1_ := aS (below_drew1 HB.out)
   clear BK156
   clear HB
   have BK156 := n0_
   have HB := n1_
   clear n0_ n1_
   have p159 : 0 ≤ (x6_1 : Int) := of_decide_eq_true (by first | (with_reducible assumption) | assumption)
   have q159 : x6_1 < (l0.length : Int) := of_decide_eq_true (by first | (with_reducible assumption) | assumption)
   obtain ⟨ad159, e159, hx159_0, hx159_1, hx159_2, hx159_3, hx159_4⟩ := at_T50 HR0.out x6_1 p159 q159
   have hw159_4 := hx159_4
   have hw159_3 := hx159_3
   have hw159_2 := hx159_2
   have hw159_1 := hx159_1
   have hw159_0 := hx159_0
   cases e159
   replace hx159_0 := hup HB.out hx159_0
   replace hx159_1 := hup HB.out hx159_1
   replace hx159_2 := hup HB.out hx159_2
   replace hx159_3 := hup HB.out hx159_3
   replace hx159_4 := hup HB.out hx159_4
   replace p159 := eq_true p159
   replace q159 := eq_true q159
   refine start_ (n := 26) (S := fun w' => w'.cell? ⟨gb156, 0, none⟩ = some (.int .i64 ((rd_T63 l1 x19_1).f0)) ∧ w'.cell? ⟨gb156, 1, none⟩ = some (.string ((rd_T63 l1 x19_1).f1.f0)) ∧ w'.cell? ⟨gb156, 2, none⟩ = some (.int .i64 ((rd_T63 l1 x19_1).f1.f1)) ∧ w'.cell? ⟨gb156, 3, none⟩ = some (.bool ((rd_T63 l1 x19_1).f1.f2)) ∧ w'.cell? ⟨gb156, 4, none⟩ = some (.bool ((rd_T63 l1 x19_1).f1.f3)) ∧ w'.cell? ⟨gb156, 5, none⟩ = some (.bool ((rd_T63 l1 x19_1).f1.f4)) ∧ w'.cell? (ad159.add ((x6_1).toNat * 5)) = some (.string ((rd_T50 l0 x6_1).f0)) ∧ w'.cell? ⟨(ad159.add ((x6_1).toNat * 5)).block, (ad159.add ((x6_1).toNat * 5)).off + 1, none⟩ = some (.int .i64 ((rd_T50 l0 x6_1).f1)) ∧ w'.cell? ⟨(ad159.add ((x6_1).toNat * 5)).block, (ad159.add ((x6_1).toNat * 5)).off + 2, none⟩ = some (.bool ((rd_T50 l0 x6_1).f2)) ∧ w'.cell? ⟨(ad159.add ((x6_1).toNat * 5)).block, (ad159.add ((x6_1).toNat * 5)).off + 3, none⟩ = some (.bool ((rd_T50 l0 x6_1).f3)) ∧ w'.cell? ⟨(ad159.add ((x6_1).toNat * 5)).block, (ad159.add ((x6_1).toNat * 5)).off + 4, none⟩ = some (.bool ((rd_T50 l0 x6_1).f4))) (ds := []) #[false, false, false, false, false, false, false, false, false, false, false, false, false, false, false, false, false, false, false, false, false, false, false, false, false, false] (by kernel_rfl) rfl rfl ⟨(blk_cell BK156.out 0).trans rfl, (blk_cell BK156.out 1).trans rfl, (blk_cell BK156.out 2).trans rfl, (blk_cell BK156.out 3).trans rfl, (blk_cell BK156.out 4).trans rfl, (blk_cell BK156.out 5).trans rfl, (hup HB.out hw159_0), (hup HB.out hw159_1), (hup HB.out hw159_2), (hup HB.out hw159_3), (hup HB.out hw159_4)⟩ (fun hHeld => ?_); refine with_tabW compare_fits.tab11 compare_fits.bits11 (fun HT_ HW_ => ?_)
   generalize w40.drew = w41 at BK156 HB hx159_0 hx159_1 hx159_2 hx159_3 hx159_4 hHeld ⊢
   refine pure_ (i := 0) (N := some 26) (v := ?_) (a' := ?_) (bs 26 1) rfl rfl (any_of HT_.out (by kernel_rfl)) (fun _ _ _ h => h) (Or.inl ⟨by rfl, ?_⟩) ?_ ?_
   rotate_left
   ·intro w'
    go_simp
    with_reducible rfl
   rotate_left
   ·simp only [Act.put, sA, sZ, sS, i64_w, i32_w]
    rfl
   refine pure_ (i := 1) (N := some 27) (v := ?_) (a' := ?_) (bs 26 3) rfl rfl (any_of HT_.out (by kernel_rfl)) (fun _ _ _ h => h) (Or.inl ⟨by rfl, ?_⟩) ?_ ?_
   rotate_left
   ·intro w'
    go_simp
    with_reducible rfl
   rotate_left
   ·simp only [Act.put, sA, sZ, sS, i64_w, i32_w]
    rfl
   refine pure_ (i := 2) (N := some 28) (v := ?_) (a' := ?_) (bs 26 7) rfl rfl (any_of HT_.out (by kernel_rfl)) (fun _ _ _ h => h) (Or.inl ⟨by rfl, ?_⟩) ?_ ?_
   rotate_left
   ·intro w'
    go_simp
    with_reducible rfl
   rotate_left
   ·simp only [Act.put, sA, sZ, sS, i64_w, i32_w]
    rfl
   refine pure_ (i := 3) (N := some 29) (v := ?_) (a' := ?_) (bs 26 15) rfl rfl (any_of HT_.out (by kernel_rfl)) (fun _ _ _ h => h) (Or.inl ⟨by rfl, ?_⟩) ?_ ?_
   rotate_left
   ·intro w'
    go_simp
    with_reducible rfl
   rotate_left
   ·simp only [Act.put, sA, sZ, sS, i64_w, i32_w]
    rfl
   refine pure_ (i := 4) (N := some 30) (v := ?_) (a' := ?_) (bs 26 31) rfl rfl (any_of HT_.out (by kernel_rfl)) (fun _ _ _ h => h) (Or.inl ⟨by rfl, ?_⟩) ?_ ?_
   rotate_left
   ·intro w'
    go_simp
    with_reducible rfl
   rotate_left
   ·simp only [Act.put, sA, sZ, sS, i64_w, i32_w]
    rfl
   refine pure_ (i := 5) (N := some 31) (v := ?_) (a' := ?_) (bs 26 63) rfl rfl (any_of HT_.out (by kernel_rfl)) (fun _ _ _ h => h) (Or.inl ⟨by rfl, ?_⟩) ?_ ?_
   rotate_left
   ·intro w'
    go_simp
    with_reducible rfl
   rotate_left
   ·simp only [Act.put, sA, sZ, sS, i64_w, i32_w]
    rfl
   refine take_ (i := 6) (N := some 32) (v := ?_) (a' := ?_) (bs 26 127) rfl rfl (take_ofW HT_.out HW_.out (by kernel_rfl)) (fun _ _ _ h => h) (Or.inl ⟨by rfl, ?_⟩) hHeld ?_ ?_
   rotate_left
   ·rintro w' ⟨s0, s1, s2, s3, s4, s5, s6, s7, s8, s9, s10⟩
    go_simp
    with_reducible rfl
   rotate_left
   ·simp only [Act.put, sA, sZ, sS, i64_w, i32_w]
    rfl
   refine pure_ (i := 7) (N := some 33) (v := ?_) (a' := ?_) (bs 26 255) rfl rfl (any_of HT_.out (by kernel_rfl)) (fun _ _ _ h => h) (Or.inl ⟨by rfl, ?_⟩) ?_ ?_
   rotate_left
   ·intro w'
    go_simp
    with_reducible rfl
   rotate_left
   ·simp only [Act.put, sA, sZ, sS, i64_w, i32_w]
    rfl
   refine pure_ (i := 8) (N := some 34) (v := ?_) (a' := ?_) (bs 26 511) rfl rfl (any_of HT_.out (by kernel_rfl)) (fun _ _ _ h => h) (Or.inl ⟨by rfl, ?_⟩) ?_ ?_
   rotate_left
   ·intro w'
    go_simp
    with_reducible rfl
   rotate_left
   ·simp only [Act.put, sA, sZ, sS, i64_w, i32_w]
    rfl
   refine pure_ (i := 9) (N := some 35) (v := ?_) (a' := ?_) (bs 26 1023) rfl rfl (any_of HT_.out (by kernel_rfl)) (fun _ _ _ h => h) (Or.inl ⟨by rfl, ?_⟩) ?_ ?_
   rotate_left
   ·intro w'
    go_simp
    with_reducible rfl
   rotate_left
   ·simp only [Act.put, sA, sZ, sS, i64_w, i32_w]
    rfl
   refine take_ (i := 10) (N := some 36) (v := ?_) (a' := ?_) (bs 26 2047) rfl rfl (take_ofW HT_.out HW_.out (by kernel_rfl)) (fun _ _ _ h => h) (Or.inl ⟨by rfl, ?_⟩) hHeld ?_ ?_
   rotate_left
   ·rintro w' ⟨s0, s1, s2, s3, s4, s5, s6, s7, s8, s9, s10⟩
    go_simp
    with_reducible rfl
   rotate_left
   ·simp only [Act.put, sA, sZ, sS, i64_w, i32_w]
    rfl
   refine pure_ (i := 11) (N := some 37) (v := ?_) (a' := ?_) (bs 26 4095) rfl rfl (any_of HT_.out (by kernel_rfl)) (fun _ _ _ h => h) (Or.inl ⟨by rfl, ?_⟩) ?_ ?_
   rotate_left
   ·intro w'
    go_simp
    with_reducible rfl
   rotate_left
   ·simp only [Act.put, sA, sZ, sS, i64_w, i32_w]
    rfl
   refine pure_ (i := 12) (N := some 38) (v := ?_) (a' := ?_) (bs 26 8191) rfl rfl (any_of HT_.out (by kernel_rfl)) (fun _ _ _ h => h) (Or.inl ⟨by rfl, ?_⟩) ?_ ?_
   rotate_left
   ·intro w'
    go_simp
    with_reducible rfl
   rotate_left
   ·simp only [Act.put, sA, sZ, sS, i64_w, i32_w]
    rfl
   refine pure_ (i := 13) (N := some 39) (v := ?_) (a' := ?_) (bs 26 16383) rfl rfl (any_of HT_.out (by kernel_rfl)) (fun _ _ _ h => h) (Or.inl ⟨by rfl, ?_⟩) ?_ ?_
   rotate_left
   ·intro w'
    go_simp
    with_reducible rfl
   rotate_left
   ·simp only [Act.put, sA, sZ, sS, i64_w, i32_w]
    rfl
   refine pure_ (i := 14) (N := some 40) (v := ?_) (a' := ?_) (bs 26 32767) rfl rfl (any_of HT_.out (by kernel_rfl)) (fun _ _ _ h => h) (Or.inl ⟨by rfl, ?_⟩) ?_ ?_
   rotate_left
   ·intro w'
    go_simp
    with_reducible rfl
   rotate_left
   ·simp only [Act.put, sA, sZ, sS, i64_w, i32_w]
    rfl
   refine pure_ (i := 15) (N := some 41) (v := ?_) (a' := ?_) (bs 26 65535) rfl rfl (any_of HT_.out (by kernel_rfl)) (fun _ _ _ h => h) (Or.inl ⟨by rfl, ?_⟩) ?_ ?_
   rotate_left
   ·intro w'
    go_simp
    with_reducible rfl
   rotate_left
   ·simp only [Act.put, sA, sZ, sS, i64_w, i32_w]
    rfl
   refine pure_ (i := 16) (N := some 42) (v := ?_) (a' := ?_) (bs 26 131071) rfl rfl (any_of HT_.out (by kernel_rfl)) (fun _ _ _ h => h) (Or.inl ⟨by rfl, ?_⟩) ?_ ?_
   rotate_left
   ·intro w'
    go_simp
    with_reducible rfl
   rotate_left
   ·simp only [Act.put, sA, sZ, sS, i64_w, i32_w]
    rfl
   refine pure_ (i := 18) (N := some 44) (v := ?_) (a' := ?_) (bs 26 393215) rfl rfl (any_of HT_.out (by kernel_rfl)) (fun _ _ _ h => h) (Or.inl ⟨by rfl, ?_⟩) ?_ ?_
   rotate_left
   ·intro w'
    go_simp
    with_reducible rfl
   rotate_left
   ·simp only [Act.put, sA, sZ, sS, i64_w, i32_w]
    rfl
   refine pure_ (i := 21) (N := some 47) (v := ?_) (a' := ?_) (bs 26 2490367) rfl rfl (any_of HT_.out (by kernel_rfl)) (fun _ _ _ h => h) (Or.inl ⟨by rfl, ?_⟩) ?_ ?_
   rotate_left
   ·intro w'
    go_simp
    with_reducible rfl
   rotate_left
   ·simp only [Act.put, sA, sZ, sS, i64_w, i32_w]
    rfl
   refine take_ (i := 17) (N := some 43) (v := ?_) (a' := ?_) (bs 26 2621439) rfl rfl (take_ofW HT_.out HW_.out (by kernel_rfl)) (fun _ _ _ h => h) (Or.inl ⟨by rfl, ?_⟩) hHeld ?_ ?_
   rotate_left
   ·rintro w' ⟨s0, s1, s2, s3, s4, s5, s6, s7, s8, s9, s10⟩
    go_simp
    with_reducible rfl
   rotate_left
   ·simp only [Act.put, sA, sZ, sS, i64_w, i32_w]
    rfl
   refine take_ (i := 19) (N := some 45) (v := ?_) (a' := ?_) (bs 26 3145727) rfl rfl (take_ofW HT_.out HW_.out (by kernel_rfl)) (fun _ _ _ h => h) (Or.inl ⟨by rfl, ?_⟩) hHeld ?_ ?_
   rotate_left
   ·rintro w' ⟨s0, s1, s2, s3, s4, s5, s6, s7, s8, s9, s10⟩
    go_simp
    with_reducible rfl
   rotate_left
   ·simp only [Act.put, sA, sZ, sS, i64_w, i32_w]
    rfl
   refine take_ (i := 22) (N := some 48) (v := ?_) (a' := ?_) (bs 26 7340031) rfl rfl (take_ofW HT_.out HW_.out (by kernel_rfl)) (fun _ _ _ h => h) (Or.inl ⟨by rfl, ?_⟩) hHeld ?_ ?_
   rotate_left
   ·rintro w' ⟨s0, s1, s2, s3, s4, s5, s6, s7, s8, s9, s10⟩
    go_simp
    with_reducible rfl
   rotate_left
   ·simp only [Act.put, sA, sZ, sS, i64_w, i32_w]
    rfl
   refine one_ (i := 20) (N := some 46) (bs 26 8388607) rfl rfl (one_of HT_.out (by kernel_rfl)) (by decide) (fun K hK => ?_)
   refine goes_ Try.func35 (by kernel_rfl) rfl #[.agg #[.string ((rd_T50 l0 x6_1).f0), .int .i64 ((rd_T50 l0 x6_1).f1), .bool ((rd_T50 l0 x6_1).f2), .bool ((rd_T50 l0 x6_1).f3), .bool ((rd_T50 l0 x6_1).f4)], .agg #[.string ((rd_T63 l1 x19_1).f1.f0), .int .i64 ((rd_T63 l1 x19_1).f1.f1), .bool ((rd_T63 l1 x19_1).f1.f2), .bool ((rd_T63 l1 x19_1).f1.f3), .bool ((rd_T63 l1 x19_1).f1.f4)]] (by rfl) rfl rfl (by (try simp only [List.map_toArray, List.map_cons, List.map_nil]); first | done | rfl | (simp only [List.length_drop, List.length_take]; rfl)) ?_
   with_reducible refine (compare_taking.calls ((rd_T50 l0 x6_1).f0) ((rd_T50 l0 x6_1).f1) ((rd_T50 l0 x6_1).f2) ((rd_T50 l0 x6_1).f3) ((rd_T50 l0 x6_1).f4) ((rd_T63 l1 x19_1).f1.f0) ((rd_T63 l1 x19_1).f1.f1) ((rd_T63 l1 x19_1).f1.f2) ((rd_T63 l1 x19_1).f1.f3) ((rd_T63 l1 x19_1).f1.f4) t160 _ A36.out).mono ?_
   rintro e w42 ⟨rfl, hb⟩
   refine ⟨_, rfl, ?_⟩
   have n0_ := aS (blk_below (g := gb156) (o := .cells #[.int .i64 ((rd_T63 l1 x19_1).f0), .string ((rd_T63 l1 x19_1).f1.f0), .int .i64 ((rd_T63 l1 x19_1).f1.f1), .bool ((rd_T63 l1 x19_1).f1.f2), .bool ((rd_T63 l1 x19_1).f1.f3), .bool ((rd_T63 l1 x19_1).f1.f4)] 63 (0, 0)) (by (with_reducible repeat (first | refine blk_drewN ?_ _ | refine blk_drew ?_ | refine blk_alloc ?_ _)); exact BK156.out) hb)
   have n1_ := aS (below_step (by repeat (first | (with_reducible first | exact HB.out | apply bA | apply bN | apply bD | refine below_set ?_ GE156.out) | exact HB.out)) hb)
   clear BK156
   clear HB
   have BK156 := n0_
   have HB := n1_
   clear n0_ n1_
   (try clear hb)
   (try clear hb2)
   (try clear hk)
   (try clear hi)
   refine hK.out _ _ ⟨(blk_cell BK156.out 0).trans rfl, (blk_cell BK156.out 1).trans rfl, (blk_cell BK156.out 2).trans rfl, (blk_cell BK156.out 3).trans rfl, (blk_cell BK156.out 4).trans rfl, (blk_cell BK156.out 5).trans rfl, (hup HB.out hw159_0), (hup HB.out hw159_1), (hup HB.out hw159_2), (hup HB.out hw159_3), (hup HB.out hw159_4)⟩ (fun hHeld => ?_)
   clear hK K
   refine norm_ (a' := ?_) ?_ ?_
   rotate_left
   ·show Act.put _ (some 46) _ = _
    simp only [Act.put, sA, sZ, sS, i64_w, i32_w]
    rfl
   refine pure_ (i := 23) (N := some 49) (v := ?_) (a' := ?_) (bs 26 16777215) rfl rfl (any_of HT_.out (by kernel_rfl)) (fun _ _ _ h => h) (Or.inl ⟨by rfl, ?_⟩) ?_ ?_
   rotate_left
   ·intro w'
    go_simp
    with_reducible rfl
   rotate_left
   ·simp only [Act.put, sA, sZ, sS, i64_w, i32_w]
    rfl
   refine pure_ (i := 24) (N := some 50) (v := ?_) (a' := ?_) (bs 26 33554431) rfl rfl (any_of HT_.out (by kernel_rfl)) (fun _ _ _ h => h) (Or.inl ⟨by rfl, ?_⟩) ?_ ?_
   rotate_left
   ·intro w'
    go_simp
    with_reducible rfl
   rotate_left
   ·simp only [Act.put, sA, sZ, sS, i64_w, i32_w]
    rfl
   refine pure_ (i := 25) (N := some 51) (v := ?_) (a' := ?_) (bs 26 67108863) rfl rfl (any_of HT_.out (by kernel_rfl)) (fun _ _ _ h => h) (Or.inl ⟨by rfl, ?_⟩) ?_ ?_
   rotate_left
   ·intro w'
    go_simp
    with_reducible rfl
   rotate_left
   ·simp only [Act.put, sA, sZ, sS, i64_w, i32_w]
    rfl
   refine done_ (done_of HT_.out (by kernel_rfl)) ?_
   try go_wp2
   go_roundg k1
   case measure => have := HK1.out; omega
   case rel => exact ⟨(wrap64 (x6_1 + 1)), (wrap64 (x19_1 + 1)), (by first | rfl | (simp; done) | (simp [*]; done)), (by first | rfl | (simp; done) | (simp [*]; done)), H', ⟨by have := HK1.out; omega⟩, ⟨by repeat (first | (with_reducible first | exact HB.out | apply bA | apply bN | apply bD | refine below_set ?_ GE156.out) | exact HB.out)⟩⟩
end Go.Proofs.Ytjmbkbnbepmhjaa.P
