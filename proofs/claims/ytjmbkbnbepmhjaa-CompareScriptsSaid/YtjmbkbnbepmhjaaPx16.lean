-- out of a program (drive.sh), by way of the translation's print
import Derived.Test.YtjmbkbnbepmhjaaPx0
import Derived.Test.YtjmbkbnbepmhjaaPx11
namespace Go.Proofs.Ytjmbkbnbepmhjaa.P
open Go.RowKit Go.Proofs.YtjmbkbnbepmhjaaW.PrintWords Go.Proofs.YtjmbkbnbepmhjaaW.PrintLast Go.Proofs.YtjmbkbnbepmhjaaW.PrintMore
attribute [local go_sem] max2_int min2_int max_two min_two max_three min_three max_four min_four   -- for this text's walks alone
set_option linter.unusedVariables false
set_option linter.unusedSimpArgs false

/-! ### compare_Missing: function 25 -/
mutual
def compare_Missing.l0 : Nat → List Int → Int → List (S63) → Int → Int → Option (List Int × Int)
 | 0, _, _, _, _, _ => none
 | k + 1, x5, x6, x14, x15, x16 => if x16 < x15 then (if 0 ≤ x16 then (if x16 < (x14.length : Int) then (if ((rd_T63 x14 x16).f0) = 3 then (compare_Missing.j1 k x5 x6 x14 x15 x16 true ((rd_T63 x14 x16).f0) ((rd_T63 x14 x16).f1.f0) ((rd_T63 x14 x16).f1.f1) ((rd_T63 x14 x16).f1.f2) ((rd_T63 x14 x16).f1.f3) ((rd_T63 x14 x16).f1.f4)) else (compare_Missing.j1 k x5 x6 x14 x15 x16 (((rd_T63 x14 x16).f0) == 5) ((rd_T63 x14 x16).f0) ((rd_T63 x14 x16).f1.f0) ((rd_T63 x14 x16).f1.f1) ((rd_T63 x14 x16).f1.f2) ((rd_T63 x14 x16).f1.f3) ((rd_T63 x14 x16).f1.f4))) else (none)) else (none)) else (some (x5, 0))
def compare_Missing.j1 : Nat → List Int → Int → List (S63) → Int → Int → Bool → Int → ByteArray → Int → Bool → Bool → Bool → Option (List Int × Int)
 | 0, _, _, _, _, _, _, _, _, _, _, _, _ => none
 | k + 1, x5, x6, x14, x15, x16, x27, x194000, x194001, x194002, x194003, x194004, x194005 => if x27 = true then (if x5.length < 17592186044416 then ((some (x5 ++ [x6] : List Int)).bind fun y194 => (if x194000 = 4 then (compare_Missing.l0 k y194 x6 x14 x15 (wrap64 (x16 + 1))) else (compare_Missing.l0 k y194 (wrap64 (x6 + 1)) x14 x15 (wrap64 (x16 + 1))))) else (none)) else (if x194000 = 4 then (compare_Missing.l0 k x5 x6 x14 x15 (wrap64 (x16 + 1))) else (compare_Missing.l0 k x5 (wrap64 (x6 + 1)) x14 x15 (wrap64 (x16 + 1))))
end
def compare_Missing.f (k : Nat) (l0 : List (S63)) : Option (List Int × Int) := (compare_check.f k l0).bind fun t191 => (if t191 = 0 then (compare_Missing.l0 k ([] : List Int) 0 l0 (l0.length : Int) 0) else (some (([] : List Int), t191)))
theorem compare_Missing.mono_l : ∀ k, (∀ y0 y1 y2 y3 y4, LeO (compare_Missing.l0 k y0 y1 y2 y3 y4) (compare_Missing.l0 (k + 1) y0 y1 y2 y3 y4)) ∧ (∀ y0 y1 y2 y3 y4 y5 y6 y7 y8 y9 y10 y11, LeO (compare_Missing.j1 k y0 y1 y2 y3 y4 y5 y6 y7 y8 y9 y10 y11) (compare_Missing.j1 (k + 1) y0 y1 y2 y3 y4 y5 y6 y7 y8 y9 y10 y11))
 | 0 => ⟨fun _ _ _ _ _ r h => by simp [compare_Missing.l0] at h, fun _ _ _ _ _ _ _ _ _ _ _ _ r h => by simp [compare_Missing.j1] at h⟩
 | k + 1 => by
  obtain ⟨ih0, ih1⟩ := compare_Missing.mono_l k
  refine ⟨?_, ?_⟩
  ·intro y0 y1 y2 y3 y4
   unfold compare_Missing.l0
   repeat' first
   | (with_reducible exact ih0 _ _ _ _ _)
   | (with_reducible exact ih1 _ _ _ _ _ _ _ _ _ _ _ _)
   | (with_reducible exact compare_check.mono _ _)
   | (with_reducible exact LeO.refl _)
   | (with_reducible exact LeO.none _)
   | (with_reducible refine LeO.ite ?_ ?_)
   | (with_reducible refine LeO.bind ?_ (fun _ => ?_))
   | exact ih0 _ _ _ _ _
   | exact ih1 _ _ _ _ _ _ _ _ _ _ _ _
   | exact compare_check.mono _ _
   | exact LeO.none _
   | refine LeO.ite ?_ ?_
   | refine LeO.bind ?_ (fun _ => ?_)
  ·intro y0 y1 y2 y3 y4 y5 y6 y7 y8 y9 y10 y11
   unfold compare_Missing.j1
   repeat' first
   | (with_reducible exact ih0 _ _ _ _ _)
   | (with_reducible exact ih1 _ _ _ _ _ _ _ _ _ _ _ _)
   | (with_reducible exact compare_check.mono _ _)
   | (with_reducible exact LeO.refl _)
   | (with_reducible exact LeO.none _)
   | (with_reducible refine LeO.ite ?_ ?_)
   | (with_reducible refine LeO.bind ?_ (fun _ => ?_))
   | exact ih0 _ _ _ _ _
   | exact ih1 _ _ _ _ _ _ _ _ _ _ _ _
   | exact compare_check.mono _ _
   | exact LeO.none _
   | refine LeO.ite ?_ ?_
   | refine LeO.bind ?_ (fun _ => ?_)
theorem compare_Missing.mono : ∀ a0 k, LeO (compare_Missing.f k a0) (compare_Missing.f (k + 1) a0) := by
 intro a0 k
 obtain ⟨ih0, ih1⟩ := compare_Missing.mono_l k
 unfold compare_Missing.f
 repeat' first
   | (with_reducible exact ih0 _ _ _ _ _)
   | (with_reducible exact ih1 _ _ _ _ _ _ _ _ _ _ _ _)
   | (with_reducible exact compare_check.mono _ _)
   | (with_reducible exact LeO.refl _)
   | (with_reducible exact LeO.none _)
   | (with_reducible refine LeO.ite ?_ ?_)
   | (with_reducible refine LeO.bind ?_ (fun _ => ?_))
   | exact ih0 _ _ _ _ _
   | exact ih1 _ _ _ _ _ _ _ _ _ _ _ _
   | exact compare_check.mono _ _
   | exact LeO.none _
   | refine LeO.ite ?_ ?_
   | refine LeO.bind ?_ (fun _ => ?_)
set_option maxHeartbeats 8000000 in
set_option maxRecDepth 100000 in
theorem compare_Missing.calls (k : Nat) (A0 : Option Addr) (c0 : Nat) (l0 : List (S63)) (r1 : List Int) (r2 : Int) (w : World) (hr0 : Kd.C k63 w A0 l0.length l0) (hc0 : l0.length ≤ c0) (h : compare_Missing.f k l0 = some (r1, r2)) :
  Calls Try.prog 25 #[.slice A0 l0.length c0] w fun e w' => ∃ v0_ : Value, e = .returned (.tuple #[v0_, .int .i64 r2]) ∧ Kd.R (Kd.int .i64) 3 w' w.heap.size (fun _ => True) v0_ r1 ∧ Below w.heap.size w w' := by
 have hu63 := Try.underlying63
 have HR0 := aS hr0
 have HC0 := aS hc0
 clear hr0 hc0
 have HB := aS (Below.refl w.heap.size w)
 have H : ((compare_check.f k l0).bind fun t191 => (if t191 = 0 then (compare_Missing.l0 k ([] : List Int) 0 l0 (l0.length : Int) 0) else (some (([] : List Int), t191)))) = some (r1, r2) := h
 clear h
 replace H := Option.bind_eq_some_iff.mp H
 obtain ⟨t191, A20, H⟩ := H
 replace H : (if t191 = 0 then (compare_Missing.l0 k ([] : List Int) 0 l0 (l0.length : Int) 0) else (some (([] : List Int), t191))) = some (r1, r2) := H
 have A2 := aS A20
 clear A20
 by_cases c3 : t191 = 0
 rotate_left
 ·rw [if_neg c3] at H
  have c3b0 : (t191 == 0) = false := beq_eq_false_iff_ne.mpr c3
  have c3b1 : (t191 != 0) = true := bne_iff_ne.mpr c3
  simp only [Option.some.injEq, Prod.mk.injEq] at H
  obtain ⟨rfl, rfl⟩ := H
  go_enter Try.func25, Try.ntmps25
  go_wp2_with (first | ((with_reducible refine gate_callee (f := 40) rfl ?_); refine goesL_ (some 10) rfl rfl Try.func40 (by kernel_rfl) rfl #[.slice A0 l0.length c0] rfl (by (try simp only [List.map_toArray, List.map_cons, List.map_nil]); first | done | rfl | (simp only [List.length_drop, List.length_take]; rfl)) ?_; (with_reducible refine (compare_check.calls k _ _ l0 t191 _ ?side1 ?side2 A2.out).mono ?_); (case side1 => repeat (first | exact HR0.out | (with_reducible apply Kd.C_alloc) | (with_reducible apply Kd.C_drewN) | (with_reducible apply Kd.C_drew))); (case side2 => exact HC0.out); rintro e w24 ⟨rfl, hb⟩; refine ⟨_, rfl, ?_⟩; have n0_ := aS (below_step (by first | exact bel HB.out | exact HB.out) hb); clear HB; have HB := n0_; clear n0_; (try clear hb); (try clear hb2); (try clear hk); (try clear hi)))
  go_ret2
  exact ⟨_, by first | rfl | (simp [errW_none, errW_some] <;> rfl) | (simp [*, errW_none, errW_some] <;> rfl), by first | exact Kd.R_nil _ _ _ _ _ | exact Kd.N_nil _ _ _ _ _ | exact Kd.V_nil _ _ _ _ _ | exact Kd.Q_nil _ _ _ _ _ | exact Kd.S_nil _ _ _ _ _, by first | exact bel HB.out | exact HB.out⟩

 rw [if_pos c3] at H
 have c3b0 : (t191 == 0) = true := beq_iff_eq.mpr c3
 have c3b1 : (t191 != 0) = false := bne_eq_false_iff_eq.mpr c3
 clear c3
 have H' := aS H
 clear H
 go_enter Try.func25, Try.ntmps25
 go_wp2_with (first | ((with_reducible refine gate_callee (f := 40) rfl ?_); refine goesL_ (some 10) rfl rfl Try.func40 (by kernel_rfl) rfl #[.slice A0 l0.length c0] rfl (by (try simp only [List.map_toArray, List.map_cons, List.map_nil]); first | done | rfl | (simp only [List.length_drop, List.length_take]; rfl)) ?_; (with_reducible refine (compare_check.calls k _ _ l0 t191 _ ?side1 ?side2 A2.out).mono ?_); (case side1 => repeat (first | exact HR0.out | (with_reducible apply Kd.C_alloc) | (with_reducible apply Kd.C_drewN) | (with_reducible apply Kd.C_drew))); (case side2 => exact HC0.out); rintro e w4 ⟨rfl, hb⟩; refine ⟨_, rfl, ?_⟩; have n0_ := aS (below_step (by first | exact bel HB.out | exact HB.out) hb); clear HB; have HB := n0_; clear n0_; (try clear hb); (try clear hb2); (try clear hk); (try clear hi)))
 go_loopg [5, 6, 16] k (fun kq v5 v6 v16 w' => ∃ (x5_1 : List Int) (x6_1 : Int) (x16_1 : Int), v6 = .int .i64 x6_1 ∧ v16 = .int .i64 x16_1 ∧ Aside0 (compare_Missing.l0 kq x5_1 x6_1 l0 (l0.length : Int) x16_1 = some (r1, r2)) ∧ Aside0 (kq ≤ k) ∧ Aside0 (Kd.R (Kd.int .i64) 3 w' w.heap.size (fun _ => True) v5 x5_1) ∧ Aside0 (Below w.heap.size w w'))
 case atStart => exact ⟨(([] : List Int)), (0), (0), (by first | rfl | (simp; done) | (simp [*]; done)), (by first | rfl | (simp; done) | (simp [*]; done)), H', ⟨Nat.le_refl _⟩, ⟨by first | exact Kd.R_nil _ _ _ _ _ | exact Kd.N_nil _ _ _ _ _ | exact Kd.V_nil _ _ _ _ _ | exact Kd.Q_nil _ _ _ _ _ | exact Kd.S_nil _ _ _ _ _⟩, ⟨by first | exact bel HB.out | exact HB.out⟩⟩
 case round =>
  clear H'
  try clear c2
  try clear p2
  try clear c3
  try clear c3b0
  try clear c3b1
  try clear c4
  obtain ⟨x5_1, x6_1, x16_1, rfl, rfl, HA, HK1, HO_5, HB⟩ := hrel
  cases gk with
  | zero => exact absurd HA.out (by simp [compare_Missing.l0])
  | succ k1 =>
   have H := HA.out
   clear HA
   simp only [compare_Missing.l0] at H
   by_cases c5 : x16_1 < (l0.length : Int)
   rotate_left
   ·rw [if_neg c5] at H
    have c5b0 : decide (x16_1 < (l0.length : Int)) = false := decide_eq_false c5
    clear c5
    simp only [Option.some.injEq, Prod.mk.injEq] at H
    obtain ⟨rfl, rfl⟩ := H
    go_wp2
    go_ret2
    exact ⟨_, by first | rfl | (simp [errW_none, errW_some] <;> rfl) | (simp [*, errW_none, errW_some] <;> rfl), by exact rel <| HO_5.out, by first | exact bel HB.out | exact HB.out⟩
   rw [if_pos c5] at H
   have c5b0 : decide (x16_1 < (l0.length : Int)) = true := decide_eq_true c5
   clear c5
   by_cases c6 : 0 ≤ x16_1
   rotate_left
   ·rw [if_neg c6] at H
    exact absurd H (by simp)
   rw [if_pos c6] at H
   have c6b0 : decide (0 ≤ x16_1) = true := decide_eq_true c6
   clear c6
   by_cases c7 : x16_1 < (l0.length : Int)
   rotate_left
   ·rw [if_neg c7] at H
    exact absurd H (by simp)
   rw [if_pos c7] at H
   have c7b0 : decide (x16_1 < (l0.length : Int)) = true := decide_eq_true c7
   clear c7
   have HC8 := aS H
   clear H
   have p192 : 0 ≤ (x16_1 : Int) := of_decide_eq_true (by first | (with_reducible assumption) | assumption)
   have q192 : x16_1 < (l0.length : Int) := of_decide_eq_true (by first | (with_reducible assumption) | assumption)
   obtain ⟨ad192, e192, hx192_0, hx192_1, hx192_2, hx192_3, hx192_4, hx192_5⟩ := at_T63 HR0.out x16_1 p192 q192
   cases e192
   replace hx192_0 := hup HB.out hx192_0
   replace hx192_1 := hup HB.out hx192_1
   replace hx192_2 := hup HB.out hx192_2
   replace hx192_3 := hup HB.out hx192_3
   replace hx192_4 := hup HB.out hx192_4
   replace hx192_5 := hup HB.out hx192_5
   replace p192 := eq_true p192
   replace q192 := eq_true q192
   go_upto_region 9 with (first | ((with_reducible refine gate_dst (N := 8) rfl ?_); refine box_event ?hg (N := 8) ?hd (cs := #[.int .i64 0, .string (⟨#[]⟩ : ByteArray), .int .i64 0, .bool false, .bool false, .bool false]) (t := 63) ?hr ?_; (case hd => rfl); (case hg => rfl); (case hr => first | (go_simp; done) | (go_simp; rfl)); intro gb193 hg w9 hbox hb; have n0_ := aS (Kd.R_below (by exact rel <| HO_5.out) hb); have n1_ := aS (below_step (by first | exact bel HB.out | exact HB.out) hb); have n2_ := aS (hbox); have n3_ := aS ((by rw [hg]; exact (below_size (by first | exact bel HB.out | exact HB.out)) : w.heap.size ≤ gb193)); have n4_ := aS ((by rw [hg]; exact (below_size (by first | exact bel HB.out | exact HB.out)) : w.heap.size ≤ gb193)); clear HO_5; clear HB; have HO_5 := n0_; have HB := n1_; have BK193 := n2_; have GW193 := n3_; have GE193 := n4_; clear n0_ n1_ n2_ n3_ n4_; clear hb hbox hg; have hcz10_0 : w9.cell? ⟨gb193, 0, none⟩ = some (.int .i64 0) := (blk_cell BK193.out 0).trans rfl; have hcz10_1 : w9.cell? ⟨gb193, 1, none⟩ = some (.string (⟨#[]⟩ : ByteArray)) := (blk_cell BK193.out 1).trans rfl; have hcz10_2 : w9.cell? ⟨gb193, 2, none⟩ = some (.int .i64 0) := (blk_cell BK193.out 2).trans rfl; have hcz10_3 : w9.cell? ⟨gb193, 3, none⟩ = some (.bool false) := (blk_cell BK193.out 3).trans rfl; have hcz10_4 : w9.cell? ⟨gb193, 4, none⟩ = some (.bool false) := (blk_cell BK193.out 4).trans rfl; have hcz10_5 : w9.cell? ⟨gb193, 5, none⟩ = some (.bool false) := (blk_cell BK193.out 5).trans rfl; have hfz10_0 := blk_frozen BK193.out 0; have hfz10_1 := blk_frozen BK193.out 1; have hfz10_2 := blk_frozen BK193.out 2; have hfz10_3 := blk_frozen BK193.out 3; have hfz10_4 := blk_frozen BK193.out 4; have hfz10_5 := blk_frozen BK193.out 5))
   (try simp only [Act.put, List.setIfInBounds_toArray, List.set_cons_zero, List.set_cons_succ])
   go_cut [27] (fun v27 wc => ∃ (kq : Nat) (x27_7 : Bool), v27 = .bool x27_7 ∧ Aside0 (compare_Missing.j1 kq x5_1 x6_1 l0 (l0.length : Int) x16_1 x27_7 ((rd_T63 l0 x16_1).f0) ((rd_T63 l0 x16_1).f1.f0) ((rd_T63 l0 x16_1).f1.f1) ((rd_T63 l0 x16_1).f1.f2) ((rd_T63 l0 x16_1).f1.f3) ((rd_T63 l0 x16_1).f1.f4) = some (r1, r2)) ∧ Aside0 (kq ≤ k1) ∧ Aside0 (Kd.R (Kd.int .i64) 3 wc w.heap.size (fun _ => True) u5 x5_1) ∧ Aside0 (wc.heap[gb193]? = some (.cells #[.int .i64 ((rd_T63 l0 x16_1).f0), .string ((rd_T63 l0 x16_1).f1.f0), .int .i64 ((rd_T63 l0 x16_1).f1.f1), .bool ((rd_T63 l0 x16_1).f1.f2), .bool ((rd_T63 l0 x16_1).f1.f3), .bool ((rd_T63 l0 x16_1).f1.f4)] 63 (0, 0))) ∧ Aside0 (Below w.heap.size w wc))
   case first =>
    have H := HC8.out
    clear HC8
    by_cases c11 : ((rd_T63 l0 x16_1).f0) = 3
    rotate_left
    ·rw [if_neg c11] at H
     have c11b0 : (((rd_T63 l0 x16_1).f0) == 3) = false := beq_eq_false_iff_ne.mpr c11
     have c11b1 : (((rd_T63 l0 x16_1).f0) != 3) = true := bne_iff_ne.mpr c11
     (first | rw [c11b0] | (simp only [i64_w, i32_w]; rw [c11b0]) | skip)
     have H' := aS H
     clear H
     have hcz13_0 : w9.cell? ⟨gb193, 0, none⟩ = some (.int .i64 0) := (blk_cell BK193.out 0).trans rfl
     have hcz13_1 : w9.cell? ⟨gb193, 1, none⟩ = some (.string (⟨#[]⟩ : ByteArray)) := (blk_cell BK193.out 1).trans rfl
     have hcz13_2 : w9.cell? ⟨gb193, 2, none⟩ = some (.int .i64 0) := (blk_cell BK193.out 2).trans rfl
     have hcz13_3 : w9.cell? ⟨gb193, 3, none⟩ = some (.bool false) := (blk_cell BK193.out 3).trans rfl
     have hcz13_4 : w9.cell? ⟨gb193, 4, none⟩ = some (.bool false) := (blk_cell BK193.out 4).trans rfl
     have hcz13_5 : w9.cell? ⟨gb193, 5, none⟩ = some (.bool false) := (blk_cell BK193.out 5).trans rfl
     have hfz13_0 := blk_frozen BK193.out 0
     have hfz13_1 := blk_frozen BK193.out 1
     have hfz13_2 := blk_frozen BK193.out 2
     have hfz13_3 := blk_frozen BK193.out 3
     have hfz13_4 := blk_frozen BK193.out 4
     have hfz13_5 := blk_frozen BK193.out 5
     go_wp2
     go_meet
     case rel => exact ⟨_, ((((rd_T63 l0 x16_1).f0) == 5)), (by first | rfl | (simp; done) | (simp [*]; done)), H', ⟨by have := HK1.out; first | omega | exact Nat.le_refl _⟩, ⟨by exact rel <| Kd.R_mono (Kd.R_far (p := ⟨gb193, 5, none⟩) (Kd.R_far (p := ⟨gb193, 4, none⟩) (Kd.R_far (p := ⟨gb193, 3, none⟩) (Kd.R_far (p := ⟨gb193, 2, none⟩) (Kd.R_far (p := ⟨gb193, 1, none⟩) (Kd.R_far (p := ⟨gb193, 0, none⟩) (Kd.R_types HO_5.out BK193.out (by decide)) (fun _ hk => hk.2) (.int .i64 ((rd_T63 l0 x16_1).f0))) (fun _ hk => hk.2) (.string ((rd_T63 l0 x16_1).f1.f0))) (fun _ hk => hk.2) (.int .i64 ((rd_T63 l0 x16_1).f1.f1))) (fun _ hk => hk.2) (.bool ((rd_T63 l0 x16_1).f1.f2))) (fun _ hk => hk.2) (.bool ((rd_T63 l0 x16_1).f1.f3))) (fun _ hk => hk.2) (.bool ((rd_T63 l0 x16_1).f1.f4))) (fun _ hk => trivial)⟩, ⟨by (with_reducible repeat (first | refine blk_drewN ?_ _ | refine blk_drew ?_ | refine blk_alloc ?_ _)); refine blk_put (cs := #[.int .i64 ((rd_T63 l0 x16_1).f0), .string ((rd_T63 l0 x16_1).f1.f0), .int .i64 ((rd_T63 l0 x16_1).f1.f1), .bool ((rd_T63 l0 x16_1).f1.f2), .bool ((rd_T63 l0 x16_1).f1.f3), .bool false]) ?_ 5 _ rfl; (with_reducible repeat (first | refine blk_drewN ?_ _ | refine blk_drew ?_ | refine blk_alloc ?_ _)); refine blk_put (cs := #[.int .i64 ((rd_T63 l0 x16_1).f0), .string ((rd_T63 l0 x16_1).f1.f0), .int .i64 ((rd_T63 l0 x16_1).f1.f1), .bool ((rd_T63 l0 x16_1).f1.f2), .bool false, .bool false]) ?_ 4 _ rfl; (with_reducible repeat (first | refine blk_drewN ?_ _ | refine blk_drew ?_ | refine blk_alloc ?_ _)); refine blk_put (cs := #[.int .i64 ((rd_T63 l0 x16_1).f0), .string ((rd_T63 l0 x16_1).f1.f0), .int .i64 ((rd_T63 l0 x16_1).f1.f1), .bool false, .bool false, .bool false]) ?_ 3 _ rfl; (with_reducible repeat (first | refine blk_drewN ?_ _ | refine blk_drew ?_ | refine blk_alloc ?_ _)); refine blk_put (cs := #[.int .i64 ((rd_T63 l0 x16_1).f0), .string ((rd_T63 l0 x16_1).f1.f0), .int .i64 0, .bool false, .bool false, .bool false]) ?_ 2 _ rfl; (with_reducible repeat (first | refine blk_drewN ?_ _ | refine blk_drew ?_ | refine blk_alloc ?_ _)); refine blk_put (cs := #[.int .i64 ((rd_T63 l0 x16_1).f0), .string (⟨#[]⟩ : ByteArray), .int .i64 0, .bool false, .bool false, .bool false]) ?_ 1 _ rfl; (with_reducible repeat (first | refine blk_drewN ?_ _ | refine blk_drew ?_ | refine blk_alloc ?_ _)); refine blk_put (cs := #[.int .i64 0, .string (⟨#[]⟩ : ByteArray), .int .i64 0, .bool false, .bool false, .bool false]) ?_ 0 _ rfl; (with_reducible repeat (first | refine blk_drewN ?_ _ | refine blk_drew ?_ | refine blk_alloc ?_ _)); exact BK193.out⟩, ⟨by repeat (first | (with_reducible first | exact HB.out | apply bA | apply bN | apply bD | refine below_set ?_ GE193.out) | exact HB.out)⟩⟩
    rw [if_pos c11] at H
    have c11b0 : (((rd_T63 l0 x16_1).f0) == 3) = true := beq_iff_eq.mpr c11
    have c11b1 : (((rd_T63 l0 x16_1).f0) != 3) = false := bne_eq_false_iff_eq.mpr c11
    clear c11
    (first | rw [c11b0] | (simp only [i64_w, i32_w]; rw [c11b0]) | skip)
    have H' := aS H
    clear H
    have hcz12_0 : w9.cell? ⟨gb193, 0, none⟩ = some (.int .i64 0) := (blk_cell BK193.out 0).trans rfl
    have hcz12_1 : w9.cell? ⟨gb193, 1, none⟩ = some (.string (⟨#[]⟩ : ByteArray)) := (blk_cell BK193.out 1).trans rfl
    have hcz12_2 : w9.cell? ⟨gb193, 2, none⟩ = some (.int .i64 0) := (blk_cell BK193.out 2).trans rfl
    have hcz12_3 : w9.cell? ⟨gb193, 3, none⟩ = some (.bool false) := (blk_cell BK193.out 3).trans rfl
    have hcz12_4 : w9.cell? ⟨gb193, 4, none⟩ = some (.bool false) := (blk_cell BK193.out 4).trans rfl
    have hcz12_5 : w9.cell? ⟨gb193, 5, none⟩ = some (.bool false) := (blk_cell BK193.out 5).trans rfl
    have hfz12_0 := blk_frozen BK193.out 0
    have hfz12_1 := blk_frozen BK193.out 1
    have hfz12_2 := blk_frozen BK193.out 2
    have hfz12_3 := blk_frozen BK193.out 3
    have hfz12_4 := blk_frozen BK193.out 4
    have hfz12_5 := blk_frozen BK193.out 5
    go_wp2
    go_meet
    case rel => exact ⟨_, (true), (by first | rfl | (simp; done) | (simp [*]; done)), H', ⟨by have := HK1.out; first | omega | exact Nat.le_refl _⟩, ⟨by exact rel <| Kd.R_mono (Kd.R_far (p := ⟨gb193, 5, none⟩) (Kd.R_far (p := ⟨gb193, 4, none⟩) (Kd.R_far (p := ⟨gb193, 3, none⟩) (Kd.R_far (p := ⟨gb193, 2, none⟩) (Kd.R_far (p := ⟨gb193, 1, none⟩) (Kd.R_far (p := ⟨gb193, 0, none⟩) (Kd.R_types HO_5.out BK193.out (by decide)) (fun _ hk => hk.2) (.int .i64 ((rd_T63 l0 x16_1).f0))) (fun _ hk => hk.2) (.string ((rd_T63 l0 x16_1).f1.f0))) (fun _ hk => hk.2) (.int .i64 ((rd_T63 l0 x16_1).f1.f1))) (fun _ hk => hk.2) (.bool ((rd_T63 l0 x16_1).f1.f2))) (fun _ hk => hk.2) (.bool ((rd_T63 l0 x16_1).f1.f3))) (fun _ hk => hk.2) (.bool ((rd_T63 l0 x16_1).f1.f4))) (fun _ hk => trivial)⟩, ⟨by (with_reducible repeat (first | refine blk_drewN ?_ _ | refine blk_drew ?_ | refine blk_alloc ?_ _)); refine blk_put (cs := #[.int .i64 ((rd_T63 l0 x16_1).f0), .string ((rd_T63 l0 x16_1).f1.f0), .int .i64 ((rd_T63 l0 x16_1).f1.f1), .bool ((rd_T63 l0 x16_1).f1.f2), .bool ((rd_T63 l0 x16_1).f1.f3), .bool false]) ?_ 5 _ rfl; (with_reducible repeat (first | refine blk_drewN ?_ _ | refine blk_drew ?_ | refine blk_alloc ?_ _)); refine blk_put (cs := #[.int .i64 ((rd_T63 l0 x16_1).f0), .string ((rd_T63 l0 x16_1).f1.f0), .int .i64 ((rd_T63 l0 x16_1).f1.f1), .bool ((rd_T63 l0 x16_1).f1.f2), .bool false, .bool false]) ?_ 4 _ rfl; (with_reducible repeat (first | refine blk_drewN ?_ _ | refine blk_drew ?_ | refine blk_alloc ?_ _)); refine blk_put (cs := #[.int .i64 ((rd_T63 l0 x16_1).f0), .string ((rd_T63 l0 x16_1).f1.f0), .int .i64 ((rd_T63 l0 x16_1).f1.f1), .bool false, .bool false, .bool false]) ?_ 3 _ rfl; (with_reducible repeat (first | refine blk_drewN ?_ _ | refine blk_drew ?_ | refine blk_alloc ?_ _)); refine blk_put (cs := #[.int .i64 ((rd_T63 l0 x16_1).f0), .string ((rd_T63 l0 x16_1).f1.f0), .int .i64 0, .bool false, .bool false, .bool false]) ?_ 2 _ rfl; (with_reducible repeat (first | refine blk_drewN ?_ _ | refine blk_drew ?_ | refine blk_alloc ?_ _)); refine blk_put (cs := #[.int .i64 ((rd_T63 l0 x16_1).f0), .string (⟨#[]⟩ : ByteArray), .int .i64 0, .bool false, .bool false, .bool false]) ?_ 1 _ rfl; (with_reducible repeat (first | refine blk_drewN ?_ _ | refine blk_drew ?_ | refine blk_alloc ?_ _)); refine blk_put (cs := #[.int .i64 0, .string (⟨#[]⟩ : ByteArray), .int .i64 0, .bool false, .bool false, .bool false]) ?_ 0 _ rfl; (with_reducible repeat (first | refine blk_drewN ?_ _ | refine blk_drew ?_ | refine blk_alloc ?_ _)); exact BK193.out⟩, ⟨by repeat (first | (with_reducible first | exact HB.out | apply bA | apply bN | apply bD | refine below_set ?_ GE193.out) | exact HB.out)⟩⟩
   clear HC8
   try clear c1
   try clear p1
   try clear q1
   try clear hx1
   try clear c2
   try clear p2
   try clear c3
   try clear c3b0
   try clear c3b1
   try clear c4
   try clear c5
   try clear c5b0
   try clear c6
   try clear c6b0
   try clear c7
   try clear c7b0
   try clear c11
   try clear c11b0
   try clear c11b1
   try clear hcz10_0
   try clear hcz10_1
   try clear hcz10_2
   try clear hcz10_3
   try clear hcz10_4
   try clear hcz10_5
   try clear hcz12_0
   try clear hcz12_1
   try clear hcz12_2
   try clear hcz12_3
   try clear hcz12_4
   try clear hcz12_5
   try clear hcz13_0
   try clear hcz13_1
   try clear hcz13_2
   try clear hcz13_3
   try clear hcz13_4
   try clear hcz13_5
   try clear hfz10_0
   try clear hfz10_1
   try clear hfz10_2
   try clear hfz10_3
   try clear hfz10_4
   try clear hfz10_5
   try clear hfz12_0
   try clear hfz12_1
   try clear hfz12_2
   try clear hfz12_3
   try clear hfz12_4
   try clear hfz12_5
   try clear hfz13_0
   try clear hfz13_1
   try clear hfz13_2
   try clear hfz13_3
   try clear hfz13_4
   try clear hfz13_5
   try clear hx192_0
   try clear hx192_1
   try clear hx192_2
   try clear hx192_3
   try clear hx192_4
   try clear hx192_5
   try clear p192
   try clear p2
   try clear q192
   obtain ⟨kq, x27_7, rfl, HA, HJ7, HO_5, BK193, HB⟩ := hcut
   cases kq with
   | zero => exact absurd HA.out (by simp [compare_Missing.j1])
   | succ kj7 =>
    have H := HA.out
    clear HA
    simp only [compare_Missing.j1] at H
    by_cases c14 : x27_7 = true
    ·subst c14
     have H1 : (if x5_1.length < 17592186044416 then ((some (x5_1 ++ [x6_1] : List Int)).bind fun y194 => (if ((rd_T63 l0 x16_1).f0) = 4 then (compare_Missing.l0 kj7 y194 x6_1 l0 (l0.length : Int) (wrap64 (x16_1 + 1))) else (compare_Missing.l0 kj7 y194 (wrap64 (x6_1 + 1)) l0 (l0.length : Int) (wrap64 (x16_1 + 1))))) else (none)) = some (r1, r2) := by rw [if_pos rfl] at H; exact H
     clear H
     have H := H1
     clear H1
     by_cases c15 : x5_1.length < 17592186044416
     rotate_left
     ·rw [if_neg c15] at H
      exact absurd H (by simp)
     rw [if_pos c15] at H
     have LMc15 := aS c15
     clear c15
     obtain ⟨y194, hy194⟩ : ∃ y_ : List Int, y_ = (x5_1 ++ [x6_1]) := ⟨_, rfl⟩
     replace H : (if ((rd_T63 l0 x16_1).f0) = 4 then (compare_Missing.l0 kj7 y194 x6_1 l0 (l0.length : Int) (wrap64 (x16_1 + 1))) else (compare_Missing.l0 kj7 y194 (wrap64 (x6_1 + 1)) l0 (l0.length : Int) (wrap64 (x16_1 + 1)))) = some (r1, r2) := by first | (rw [hy194]; with_reducible exact H) | (have H2_ := (Option.bind_some _ _).symm.trans H; rw [hy194]; with_reducible exact H2_) | (have H2_ := (Option.bind_some _ _).symm.trans H; with_reducible exact H2_) | with_reducible exact H | (rw [hy194]; exact H) | exact H
     have Ny194 := aS hy194
     clear hy194
     by_cases c16 : ((rd_T63 l0 x16_1).f0) = 4
     rotate_left
     ·rw [if_neg c16] at H
      have c16b0 : (((rd_T63 l0 x16_1).f0) == 4) = false := beq_eq_false_iff_ne.mpr c16
      have c16b1 : (((rd_T63 l0 x16_1).f0) != 4) = true := bne_iff_ne.mpr c16
      have H' := aS H
      clear H
      go_wp2_with (first | ((with_reducible refine gate_builtin (b := .append) (xs := #[.tmp 28, .tmp 30]) rfl ?_); at_builtin; refine Kd.R_append (Kd.int .i64) (w0 := w) w.heap.size rfl (.tmp 28) (.tmp 30) 45 3 (.int .i64 0) 8 rfl Try.underlying45 info3 rfl (by decide) (by omega) u5 x5_1 x6_1 [.int .i64 x6_1] (fun _ => True) (fun _ => False) rfl rfl ?aP (fun _ hk => hk.elim) ?aF ?aO ?aB ?aS ?aL ?_; (case aP => exact rfl); (case aB => exact (by repeat (first | (with_reducible first | exact HB.out | apply bA | apply bN | apply bD | refine below_set ?_ GE193.out) | exact HB.out))); (case aF => exact (fun _ _ => trivial)); (case aO => exact (by exact rel <| HO_5.out)); (case aS => exact (below_size (by repeat (first | (with_reducible first | exact HB.out | apply bA | apply bN | apply bD | refine below_set ?_ GE193.out) | exact HB.out)))); (case aL => have := LMc15.out; omega); intro v195 w19 ho hb hg hat; rw [← Ny194.out] at ho; have n0_ := aS (blk_grown (g := gb193) (o := .cells #[.int .i64 ((rd_T63 l0 x16_1).f0), .string ((rd_T63 l0 x16_1).f1.f0), .int .i64 ((rd_T63 l0 x16_1).f1.f1), .bool ((rd_T63 l0 x16_1).f1.f2), .bool ((rd_T63 l0 x16_1).f1.f3), .bool ((rd_T63 l0 x16_1).f1.f4)] 63 (0, 0)) (by (with_reducible repeat (first | refine blk_drewN ?_ _ | refine blk_drew ?_ | refine blk_alloc ?_ _)); exact BK193.out) hg (Kd.R_ne HO_5.out BK193.out (by decide))); have n1_ := aS (hb); have n2_ := aS (ho); clear BK193; clear HB; clear HO_5; have BK193 := n0_; have HB := n1_; have HO196 := n2_; clear n0_ n1_ n2_; clear ho hb hg hat; have hcz20_0 : w19.cell? ⟨gb193, 0, none⟩ = some (.int .i64 ((rd_T63 l0 x16_1).f0)) := (blk_cell BK193.out 0).trans rfl; have hcz20_1 : w19.cell? ⟨gb193, 1, none⟩ = some (.string ((rd_T63 l0 x16_1).f1.f0)) := (blk_cell BK193.out 1).trans rfl; have hcz20_2 : w19.cell? ⟨gb193, 2, none⟩ = some (.int .i64 ((rd_T63 l0 x16_1).f1.f1)) := (blk_cell BK193.out 2).trans rfl; have hcz20_3 : w19.cell? ⟨gb193, 3, none⟩ = some (.bool ((rd_T63 l0 x16_1).f1.f2)) := (blk_cell BK193.out 3).trans rfl; have hcz20_4 : w19.cell? ⟨gb193, 4, none⟩ = some (.bool ((rd_T63 l0 x16_1).f1.f3)) := (blk_cell BK193.out 4).trans rfl; have hcz20_5 : w19.cell? ⟨gb193, 5, none⟩ = some (.bool ((rd_T63 l0 x16_1).f1.f4)) := (blk_cell BK193.out 5).trans rfl; have hfz20_0 := blk_frozen BK193.out 0; have hfz20_1 := blk_frozen BK193.out 1; have hfz20_2 := blk_frozen BK193.out 2; have hfz20_3 := blk_frozen BK193.out 3; have hfz20_4 := blk_frozen BK193.out 4; have hfz20_5 := blk_frozen BK193.out 5))
      go_roundg kj7
      case measure => have := HK1.out; have := HJ7.out; omega
      case rel => exact ⟨(y194), (wrap64 (x6_1 + 1)), (wrap64 (x16_1 + 1)), (by first | rfl | (simp; done) | (simp [*]; done)), (by first | rfl | (simp; done) | (simp [*]; done)), H', ⟨by have := HK1.out; have := HJ7.out; omega⟩, ⟨by exact rel <| HO196.out⟩, ⟨by repeat (first | (with_reducible first | exact HB.out | apply bA | apply bN | apply bD | refine below_set ?_ GE193.out) | exact HB.out)⟩⟩
     rw [if_pos c16] at H
     have c16b0 : (((rd_T63 l0 x16_1).f0) == 4) = true := beq_iff_eq.mpr c16
     have c16b1 : (((rd_T63 l0 x16_1).f0) != 4) = false := bne_eq_false_iff_eq.mpr c16
     clear c16
     have H' := aS H
     clear H
     go_wp2_with (first | ((with_reducible refine gate_builtin (b := .append) (xs := #[.tmp 28, .tmp 30]) rfl ?_); at_builtin; refine Kd.R_append (Kd.int .i64) (w0 := w) w.heap.size rfl (.tmp 28) (.tmp 30) 45 3 (.int .i64 0) 8 rfl Try.underlying45 info3 rfl (by decide) (by omega) u5 x5_1 x6_1 [.int .i64 x6_1] (fun _ => True) (fun _ => False) rfl rfl ?aP (fun _ hk => hk.elim) ?aF ?aO ?aB ?aS ?aL ?_; (case aP => exact rfl); (case aB => exact (by repeat (first | (with_reducible first | exact HB.out | apply bA | apply bN | apply bD | refine below_set ?_ GE193.out) | exact HB.out))); (case aF => exact (fun _ _ => trivial)); (case aO => exact (by exact rel <| HO_5.out)); (case aS => exact (below_size (by repeat (first | (with_reducible first | exact HB.out | apply bA | apply bN | apply bD | refine below_set ?_ GE193.out) | exact HB.out)))); (case aL => have := LMc15.out; omega); intro v195 w17 ho hb hg hat; rw [← Ny194.out] at ho; have n0_ := aS (blk_grown (g := gb193) (o := .cells #[.int .i64 ((rd_T63 l0 x16_1).f0), .string ((rd_T63 l0 x16_1).f1.f0), .int .i64 ((rd_T63 l0 x16_1).f1.f1), .bool ((rd_T63 l0 x16_1).f1.f2), .bool ((rd_T63 l0 x16_1).f1.f3), .bool ((rd_T63 l0 x16_1).f1.f4)] 63 (0, 0)) (by (with_reducible repeat (first | refine blk_drewN ?_ _ | refine blk_drew ?_ | refine blk_alloc ?_ _)); exact BK193.out) hg (Kd.R_ne HO_5.out BK193.out (by decide))); have n1_ := aS (hb); have n2_ := aS (ho); clear BK193; clear HB; clear HO_5; have BK193 := n0_; have HB := n1_; have HO196 := n2_; clear n0_ n1_ n2_; clear ho hb hg hat; have hcz18_0 : w17.cell? ⟨gb193, 0, none⟩ = some (.int .i64 ((rd_T63 l0 x16_1).f0)) := (blk_cell BK193.out 0).trans rfl; have hcz18_1 : w17.cell? ⟨gb193, 1, none⟩ = some (.string ((rd_T63 l0 x16_1).f1.f0)) := (blk_cell BK193.out 1).trans rfl; have hcz18_2 : w17.cell? ⟨gb193, 2, none⟩ = some (.int .i64 ((rd_T63 l0 x16_1).f1.f1)) := (blk_cell BK193.out 2).trans rfl; have hcz18_3 : w17.cell? ⟨gb193, 3, none⟩ = some (.bool ((rd_T63 l0 x16_1).f1.f2)) := (blk_cell BK193.out 3).trans rfl; have hcz18_4 : w17.cell? ⟨gb193, 4, none⟩ = some (.bool ((rd_T63 l0 x16_1).f1.f3)) := (blk_cell BK193.out 4).trans rfl; have hcz18_5 : w17.cell? ⟨gb193, 5, none⟩ = some (.bool ((rd_T63 l0 x16_1).f1.f4)) := (blk_cell BK193.out 5).trans rfl; have hfz18_0 := blk_frozen BK193.out 0; have hfz18_1 := blk_frozen BK193.out 1; have hfz18_2 := blk_frozen BK193.out 2; have hfz18_3 := blk_frozen BK193.out 3; have hfz18_4 := blk_frozen BK193.out 4; have hfz18_5 := blk_frozen BK193.out 5))
     go_roundg kj7
     case measure => have := HK1.out; have := HJ7.out; omega
     case rel => exact ⟨(y194), (x6_1), (wrap64 (x16_1 + 1)), (by first | rfl | (simp; done) | (simp [*]; done)), (by first | rfl | (simp; done) | (simp [*]; done)), H', ⟨by have := HK1.out; have := HJ7.out; omega⟩, ⟨by exact rel <| HO196.out⟩, ⟨by repeat (first | (with_reducible first | exact HB.out | apply bA | apply bN | apply bD | refine below_set ?_ GE193.out) | exact HB.out)⟩⟩
    replace c14 := Bool.eq_false_iff.mpr c14
    subst c14
    have H1 : (if ((rd_T63 l0 x16_1).f0) = 4 then (compare_Missing.l0 kj7 x5_1 x6_1 l0 (l0.length : Int) (wrap64 (x16_1 + 1))) else (compare_Missing.l0 kj7 x5_1 (wrap64 (x6_1 + 1)) l0 (l0.length : Int) (wrap64 (x16_1 + 1)))) = some (r1, r2) := by rw [if_neg (show ¬ (false = true) by decide)] at H; exact H
    clear H
    have H := H1
    clear H1
    by_cases c21 : ((rd_T63 l0 x16_1).f0) = 4
    rotate_left
    ·rw [if_neg c21] at H
     have c21b0 : (((rd_T63 l0 x16_1).f0) == 4) = false := beq_eq_false_iff_ne.mpr c21
     have c21b1 : (((rd_T63 l0 x16_1).f0) != 4) = true := bne_iff_ne.mpr c21
     have H' := aS H
     clear H
     have hcz23_0 : wc.cell? ⟨gb193, 0, none⟩ = some (.int .i64 ((rd_T63 l0 x16_1).f0)) := (blk_cell BK193.out 0).trans rfl
     have hcz23_1 : wc.cell? ⟨gb193, 1, none⟩ = some (.string ((rd_T63 l0 x16_1).f1.f0)) := (blk_cell BK193.out 1).trans rfl
     have hcz23_2 : wc.cell? ⟨gb193, 2, none⟩ = some (.int .i64 ((rd_T63 l0 x16_1).f1.f1)) := (blk_cell BK193.out 2).trans rfl
     have hcz23_3 : wc.cell? ⟨gb193, 3, none⟩ = some (.bool ((rd_T63 l0 x16_1).f1.f2)) := (blk_cell BK193.out 3).trans rfl
     have hcz23_4 : wc.cell? ⟨gb193, 4, none⟩ = some (.bool ((rd_T63 l0 x16_1).f1.f3)) := (blk_cell BK193.out 4).trans rfl
     have hcz23_5 : wc.cell? ⟨gb193, 5, none⟩ = some (.bool ((rd_T63 l0 x16_1).f1.f4)) := (blk_cell BK193.out 5).trans rfl
     have hfz23_0 := blk_frozen BK193.out 0
     have hfz23_1 := blk_frozen BK193.out 1
     have hfz23_2 := blk_frozen BK193.out 2
     have hfz23_3 := blk_frozen BK193.out 3
     have hfz23_4 := blk_frozen BK193.out 4
     have hfz23_5 := blk_frozen BK193.out 5
     go_wp2
     go_roundg kj7
     case measure => have := HK1.out; have := HJ7.out; omega
     case rel => exact ⟨(x5_1), (wrap64 (x6_1 + 1)), (wrap64 (x16_1 + 1)), (by first | rfl | (simp; done) | (simp [*]; done)), (by first | rfl | (simp; done) | (simp [*]; done)), H', ⟨by have := HK1.out; have := HJ7.out; omega⟩, ⟨by exact rel <| HO_5.out⟩, ⟨by repeat (first | (with_reducible first | exact HB.out | apply bA | apply bN | apply bD | refine below_set ?_ GE193.out) | exact HB.out)⟩⟩
    rw [if_pos c21] at H
    have c21b0 : (((rd_T63 l0 x16_1).f0) == 4) = true := beq_iff_eq.mpr c21
    have c21b1 : (((rd_T63 l0 x16_1).f0) != 4) = false := bne_eq_false_iff_eq.mpr c21
    clear c21
    have H' := aS H
    clear H
    have hcz22_0 : wc.cell? ⟨gb193, 0, none⟩ = some (.int .i64 ((rd_T63 l0 x16_1).f0)) := (blk_cell BK193.out 0).trans rfl
    have hcz22_1 : wc.cell? ⟨gb193, 1, none⟩ = some (.string ((rd_T63 l0 x16_1).f1.f0)) := (blk_cell BK193.out 1).trans rfl
    have hcz22_2 : wc.cell? ⟨gb193, 2, none⟩ = some (.int .i64 ((rd_T63 l0 x16_1).f1.f1)) := (blk_cell BK193.out 2).trans rfl
    have hcz22_3 : wc.cell? ⟨gb193, 3, none⟩ = some (.bool ((rd_T63 l0 x16_1).f1.f2)) := (blk_cell BK193.out 3).trans rfl
    have hcz22_4 : wc.cell? ⟨gb193, 4, none⟩ = some (.bool ((rd_T63 l0 x16_1).f1.f3)) := (blk_cell BK193.out 4).trans rfl
    have hcz22_5 : wc.cell? ⟨gb193, 5, none⟩ = some (.bool ((rd_T63 l0 x16_1).f1.f4)) := (blk_cell BK193.out 5).trans rfl
    have hfz22_0 := blk_frozen BK193.out 0
    have hfz22_1 := blk_frozen BK193.out 1
    have hfz22_2 := blk_frozen BK193.out 2
    have hfz22_3 := blk_frozen BK193.out 3
    have hfz22_4 := blk_frozen BK193.out 4
    have hfz22_5 := blk_frozen BK193.out 5
    go_wp2
    go_roundg kj7
    case measure => have := HK1.out; have := HJ7.out; omega
    case rel => exact ⟨(x5_1), (x6_1), (wrap64 (x16_1 + 1)), (by first | rfl | (simp; done) | (simp [*]; done)), (by first | rfl | (simp; done) | (simp [*]; done)), H', ⟨by have := HK1.out; have := HJ7.out; omega⟩, ⟨by exact rel <| HO_5.out⟩, ⟨by repeat (first | (with_reducible first | exact HB.out | apply bA | apply bN | apply bD | refine below_set ?_ GE193.out) | exact HB.out)⟩⟩
end Go.Proofs.Ytjmbkbnbepmhjaa.P
