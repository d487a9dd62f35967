-- out of a program (drive.sh), by way of the translation's print
import Derived.Test.YtjmbkbnbepmhjaaPx0
import Derived.Test.YtjmbkbnbepmhjaaPx22
namespace Go.Proofs.Ytjmbkbnbepmhjaa.P
open Go.RowKit Go.Proofs.YtjmbkbnbepmhjaaW.PrintWords Go.Proofs.YtjmbkbnbepmhjaaW.PrintLast Go.Proofs.YtjmbkbnbepmhjaaW.PrintMore
attribute [local go_sem] max2_int min2_int max_two min_two max_three min_three max_four min_four   -- for this text's walks alone
set_option linter.unusedVariables false
set_option linter.unusedSimpArgs false

/-! ### salchowref25_Missing: function 28 -/
mutual
def salchowref25_Missing.l0 : Nat → List (S58) → List Int → Int → Int → Option (List Int × Int)
 | 0, _, _, _, _ => none
 | k + 1, x0, x5, x6, x7 => if x7 < (x0.length : Int) then (if 0 ≤ x7 then (if ((rd_T58 x0 x7).f0) = 5 then (salchowref25_Missing.j1 k x0 x5 x6 x7 true) else (salchowref25_Missing.j1 k x0 x5 x6 x7 (((rd_T58 x0 x7).f0) == 3))) else (none)) else (some (x5, 0))
def salchowref25_Missing.j1 : Nat → List (S58) → List Int → Int → Int → Bool → Option (List Int × Int)
 | 0, _, _, _, _, _ => none
 | k + 1, x0, x5, x6, x7, x33 => if x33 = true then (if x5.length < 17592186044416 then ((some (x5 ++ [x6] : List Int)).bind fun y498 => (if 0 ≤ x7 then (if x7 < (x0.length : Int) then (if ((rd_T58 x0 x7).f0) = 4 then (salchowref25_Missing.l0 k x0 y498 x6 (wrap64 (x7 + 1))) else (salchowref25_Missing.l0 k x0 y498 (wrap64 (x6 + 1)) (wrap64 (x7 + 1)))) else (none)) else (none))) else (none)) else (if 0 ≤ x7 then (if x7 < (x0.length : Int) then (if ((rd_T58 x0 x7).f0) = 4 then (salchowref25_Missing.l0 k x0 x5 x6 (wrap64 (x7 + 1))) else (salchowref25_Missing.l0 k x0 x5 (wrap64 (x6 + 1)) (wrap64 (x7 + 1)))) else (none)) else (none))
end
def salchowref25_Missing.f (k : Nat) (l0 : List (S58)) : Option (List Int × Int) := (salchowref25_Legal.f k l0).bind fun t492 => (if t492 = 0 then (salchowref25_Missing.l0 k l0 (([] : List Int)) 0 0) else (some (([] : List Int), t492)))
theorem salchowref25_Missing.mono_l : ∀ k, (∀ y0 y1 y2 y3, LeO (salchowref25_Missing.l0 k y0 y1 y2 y3) (salchowref25_Missing.l0 (k + 1) y0 y1 y2 y3)) ∧ (∀ y0 y1 y2 y3 y4, LeO (salchowref25_Missing.j1 k y0 y1 y2 y3 y4) (salchowref25_Missing.j1 (k + 1) y0 y1 y2 y3 y4))
 | 0 => ⟨fun _ _ _ _ r h => by simp [salchowref25_Missing.l0] at h, fun _ _ _ _ _ r h => by simp [salchowref25_Missing.j1] at h⟩
 | k + 1 => by
  obtain ⟨ih0, ih1⟩ := salchowref25_Missing.mono_l k
  refine ⟨?_, ?_⟩
  ·intro y0 y1 y2 y3
   unfold salchowref25_Missing.l0
   repeat' first
   | (with_reducible exact ih0 _ _ _ _)
   | (with_reducible exact ih1 _ _ _ _ _)
   | (with_reducible exact salchowref25_Legal.mono _ _)
   | (with_reducible exact LeO.refl _)
   | (with_reducible exact LeO.none _)
   | (with_reducible refine LeO.ite ?_ ?_)
   | (with_reducible refine LeO.bind ?_ (fun _ => ?_))
   | exact ih0 _ _ _ _
   | exact ih1 _ _ _ _ _
   | exact salchowref25_Legal.mono _ _
   | exact LeO.none _
   | refine LeO.ite ?_ ?_
   | refine LeO.bind ?_ (fun _ => ?_)
  ·intro y0 y1 y2 y3 y4
   unfold salchowref25_Missing.j1
   repeat' first
   | (with_reducible exact ih0 _ _ _ _)
   | (with_reducible exact ih1 _ _ _ _ _)
   | (with_reducible exact salchowref25_Legal.mono _ _)
   | (with_reducible exact LeO.refl _)
   | (with_reducible exact LeO.none _)
   | (with_reducible refine LeO.ite ?_ ?_)
   | (with_reducible refine LeO.bind ?_ (fun _ => ?_))
   | exact ih0 _ _ _ _
   | exact ih1 _ _ _ _ _
   | exact salchowref25_Legal.mono _ _
   | exact LeO.none _
   | refine LeO.ite ?_ ?_
   | refine LeO.bind ?_ (fun _ => ?_)
theorem salchowref25_Missing.mono : ∀ a0 k, LeO (salchowref25_Missing.f k a0) (salchowref25_Missing.f (k + 1) a0) := by
 intro a0 k
 obtain ⟨ih0, ih1⟩ := salchowref25_Missing.mono_l k
 unfold salchowref25_Missing.f
 repeat' first
   | (with_reducible exact ih0 _ _ _ _)
   | (with_reducible exact ih1 _ _ _ _ _)
   | (with_reducible exact salchowref25_Legal.mono _ _)
   | (with_reducible exact LeO.refl _)
   | (with_reducible exact LeO.none _)
   | (with_reducible refine LeO.ite ?_ ?_)
   | (with_reducible refine LeO.bind ?_ (fun _ => ?_))
   | exact ih0 _ _ _ _
   | exact ih1 _ _ _ _ _
   | exact salchowref25_Legal.mono _ _
   | exact LeO.none _
   | refine LeO.ite ?_ ?_
   | refine LeO.bind ?_ (fun _ => ?_)
set_option maxHeartbeats 8000000 in
set_option maxRecDepth 100000 in
theorem salchowref25_Missing.calls (k : Nat) (A0 : Option Addr) (c0 : Nat) (l0 : List (S58)) (r1 : List Int) (r2 : Int) (w : World) (hr0 : Kd.C k58 w A0 l0.length l0) (hc0 : l0.length ≤ c0) (h : salchowref25_Missing.f k l0 = some (r1, r2)) :
  Calls Try.prog 28 #[.slice A0 l0.length c0] w fun e w' => ∃ v0_ : Value, e = .returned (.tuple #[v0_, .int .i64 r2]) ∧ Kd.R (Kd.int .i64) 3 w' w.heap.size (fun _ => True) v0_ r1 ∧ Below w.heap.size w w' := by
 have HR0 := Aside0.mk hr0
 have HC0 := Aside0.mk hc0
 clear hr0 hc0
 have HB := Aside0.mk (Below.refl w.heap.size w)
 have H : ((salchowref25_Legal.f k l0).bind fun t492 => (if t492 = 0 then (salchowref25_Missing.l0 k l0 (([] : List Int)) 0 0) else (some (([] : List Int), t492)))) = some (r1, r2) := h
 clear h
 replace H := Option.bind_eq_some_iff.mp H
 obtain ⟨t492, A20, H⟩ := H
 replace H : (if t492 = 0 then (salchowref25_Missing.l0 k l0 (([] : List Int)) 0 0) else (some (([] : List Int), t492))) = some (r1, r2) := H
 have A2 := Aside0.mk A20
 clear A20
 by_cases c3 : t492 = 0
 rotate_left
 ·rw [if_neg c3] at H
  have c3b0 : (t492 == 0) = false := beq_eq_false_iff_ne.mpr c3
  have c3b1 : (t492 != 0) = true := bne_iff_ne.mpr c3
  simp only [Option.some.injEq, Prod.mk.injEq] at H
  obtain ⟨rfl, rfl⟩ := H
  go_enter Try.func28, Try.ntmps28
  go_wp2_with (first | ((with_reducible refine gate_callee (f := 38) rfl ?_); refine goesL_ (some 9) rfl rfl Try.func38 (by kernel_rfl) rfl #[.slice A0 l0.length c0] rfl (by (try simp only [List.map_toArray, List.map_cons, List.map_nil]); first | done | rfl | (simp only [List.length_drop, List.length_take]; rfl)) ?_; (with_reducible refine (salchowref25_Legal.calls k _ _ l0 t492 _ ?side1 ?side2 A2.out).mono ?_); (case side1 => repeat (first | exact HR0.out | (with_reducible apply Kd.C_alloc) | (with_reducible apply Kd.C_drewN) | (with_reducible apply Kd.C_drew))); (case side2 => exact HC0.out); rintro e w' ⟨rfl, ⟨nd, rfl⟩⟩; refine ⟨_, rfl, ?_⟩))
  go_ret2
  exact ⟨_, by first | rfl | (simp [errW_none, errW_some] <;> rfl) | (simp [*, errW_none, errW_some] <;> rfl), by first | exact Kd.R_nil _ _ _ _ _ | exact Kd.N_nil _ _ _ _ _ | exact Kd.V_nil _ _ _ _ _ | exact Kd.Q_nil _ _ _ _ _ | exact Kd.S_nil _ _ _ _ _, by repeat (first | (with_reducible first | exact HB.out | apply bA | apply bN | apply bD) | exact HB.out)⟩

 rw [if_pos c3] at H
 have c3b0 : (t492 == 0) = true := beq_iff_eq.mpr c3
 have c3b1 : (t492 != 0) = false := bne_eq_false_iff_eq.mpr c3
 clear c3
 obtain ⟨y493, hy493⟩ : ∃ y_ : List Int, y_ = (([] : List Int)) := ⟨_, rfl⟩
 replace H : (salchowref25_Missing.l0 k l0 y493 0 0) = some (r1, r2) := by first | (rw [hy493]; with_reducible exact H) | (have H2_ := (Option.bind_some _ _).symm.trans H; rw [hy493]; with_reducible exact H2_) | (have H2_ := (Option.bind_some _ _).symm.trans H; with_reducible exact H2_) | with_reducible exact H | (rw [hy493]; exact H) | exact H
 have Ny493 := Aside0.mk hy493
 clear hy493
 have H' := Aside0.mk H
 clear H
 go_enter Try.func28, Try.ntmps28
 go_wp2_with (first | ((with_reducible refine gate_callee (f := 38) rfl ?_); refine goesL_ (some 9) rfl rfl Try.func38 (by kernel_rfl) rfl #[.slice A0 l0.length c0] rfl (by (try simp only [List.map_toArray, List.map_cons, List.map_nil]); first | done | rfl | (simp only [List.length_drop, List.length_take]; rfl)) ?_; (with_reducible refine (salchowref25_Legal.calls k _ _ l0 t492 _ ?side1 ?side2 A2.out).mono ?_); (case side1 => repeat (first | exact HR0.out | (with_reducible apply Kd.C_alloc) | (with_reducible apply Kd.C_drewN) | (with_reducible apply Kd.C_drew))); (case side2 => exact HC0.out); rintro e w' ⟨rfl, ⟨nd, rfl⟩⟩; refine ⟨_, rfl, ?_⟩) | ((with_reducible refine gate_dst (N := 13) rfl ?_); refine Kd.R_lit (Kd.int .i64) _ 3 ?hg (N := 13) ?hd (xs := ([] : List Int)) (inner := []) (ok := fun _ => True) (okp := fun _ => True) ?hr ?hp (fun _ hk => hk) trivial (Below.refl _ _) (Nat.le_refl _) (by simp) ?_; (case hd => rfl); (case hg => rfl); (case hr => first | (go_simp; done) | (go_simp; rfl)); (case hp => exact (Reps.none _ _)); intro v494 w4 ho5 hb hg_ hnew_; clear hg_ hnew_; (first | rw [← Ny493.out] at ho5 | (simp only [Int.reduceToNat] at ho5; rw [← Ny493.out] at ho5)); have n0_ := Aside0.mk (Kd.R_lower ho5 (below_size (by repeat (first | (with_reducible first | exact HB.out | apply bA | apply bN | apply bD) | exact HB.out)))); have n1_ := Aside0.mk (below_step (by repeat (first | (with_reducible first | exact HB.out | apply bA | apply bN | apply bD) | exact HB.out)) hb); clear HB; have HO495 := n0_; have HB := n1_; clear n0_ n1_; clear hb ho5))
 go_loopg [5, 6, 7] k (fun kq v5 v6 v7 w' => ∃ (x5_1 : List Int) (x6_1 : Int) (x7_1 : Int), v6 = .int .i64 x6_1 ∧ v7 = .int .i64 x7_1 ∧ Aside0 (salchowref25_Missing.l0 kq l0 x5_1 x6_1 x7_1 = some (r1, r2)) ∧ Aside0 (kq ≤ k) ∧ Aside0 (Kd.R (Kd.int .i64) 3 w' w.heap.size (fun _ => True) v5 x5_1) ∧ Aside0 (Below w.heap.size w w'))
 case atStart => exact ⟨(y493), (0), (0), (by first | rfl | (simp; done) | (simp [*]; done)), (by first | rfl | (simp; done) | (simp [*]; done)), H', ⟨Nat.le_refl _⟩, ⟨by (with_reducible repeat (first | apply Kd.rA | apply Kd.rN | apply Kd.rD)); exact HO495.out⟩, ⟨by repeat (first | (with_reducible first | exact HB.out | apply bA | apply bN | apply bD) | exact HB.out)⟩⟩
 case round =>
  clear H'
  try clear c2
  try clear p2
  try clear c3
  try clear c3b0
  try clear c3b1
  obtain ⟨x5_1, x6_1, x7_1, rfl, rfl, HA, HK1, HO_5, HB⟩ := hrel
  cases gk with
  | zero => exact absurd HA.out (by simp [salchowref25_Missing.l0])
  | succ k1 =>
   have H := HA.out
   clear HA
   simp only [salchowref25_Missing.l0] at H
   by_cases c6 : x7_1 < (l0.length : Int)
   rotate_left
   ·rw [if_neg c6] at H
    have c6b0 : decide (x7_1 < (l0.length : Int)) = false := decide_eq_false c6
    clear c6
    simp only [Option.some.injEq, Prod.mk.injEq] at H
    obtain ⟨rfl, rfl⟩ := H
    go_wp2
    go_ret2
    exact ⟨_, by first | rfl | (simp [errW_none, errW_some] <;> rfl) | (simp [*, errW_none, errW_some] <;> rfl), by (with_reducible repeat (first | apply Kd.rA | apply Kd.rN | apply Kd.rD)); exact HO_5.out, by repeat (first | (with_reducible first | exact HB.out | apply bA | apply bN | apply bD) | exact HB.out)⟩
   rw [if_pos c6] at H
   have c6b0 : decide (x7_1 < (l0.length : Int)) = true := decide_eq_true c6
   clear c6
   have HC7 := Aside0.mk H
   clear H
   go_upto_region 9 with (fail)
   go_cut [33] (fun v33 wc => ∃ (kq : Nat) (x33_6 : Bool), v33 = .bool x33_6 ∧ Aside0 (salchowref25_Missing.j1 kq l0 x5_1 x6_1 x7_1 x33_6 = some (r1, r2)) ∧ Aside0 (kq ≤ k1) ∧ Aside0 (Kd.R (Kd.int .i64) 3 wc w.heap.size (fun _ => True) u5 x5_1) ∧ Aside0 (Below w.heap.size w wc))
   case first =>
    have H := HC7.out
    clear HC7
    by_cases c8 : 0 ≤ x7_1
    rotate_left
    ·rw [if_neg c8] at H
     exact absurd H (by simp)
    rw [if_pos c8] at H
    have c8b0 : decide (0 ≤ x7_1) = true := decide_eq_true c8
    clear c8
    (first | rw [c8b0] | (simp only [i64_w, i32_w]; rw [c8b0]) | skip)
    by_cases c9 : ((rd_T58 l0 x7_1).f0) = 5
    ·rw [if_pos c9] at H
     have c9b0 : (((rd_T58 l0 x7_1).f0) == 5) = true := beq_iff_eq.mpr c9
     have c9b1 : (((rd_T58 l0 x7_1).f0) != 5) = false := bne_eq_false_iff_eq.mpr c9
     clear c9
     have H' := Aside0.mk H
     clear H
     have p496 : 0 ≤ (x7_1 : Int) := of_decide_eq_true (by first | (with_reducible assumption) | assumption)
     have q496 : x7_1 < (l0.length : Int) := of_decide_eq_true (by first | (with_reducible assumption) | assumption)
     obtain ⟨ad496, e496, hx496_0, hx496_1, hx496_2, hx496_3, hx496_4, hx496_5⟩ := at_T58 HR0.out x7_1 p496 q496
     cases e496
     replace hx496_0 := (HB.out.cell (World.block_lt_of_cell? w _ hx496_0)).trans hx496_0
     replace hx496_1 := (HB.out.cell (World.block_lt_of_cell? w _ hx496_1)).trans hx496_1
     replace hx496_2 := (HB.out.cell (World.block_lt_of_cell? w _ hx496_2)).trans hx496_2
     replace hx496_3 := (HB.out.cell (World.block_lt_of_cell? w _ hx496_3)).trans hx496_3
     replace hx496_4 := (HB.out.cell (World.block_lt_of_cell? w _ hx496_4)).trans hx496_4
     replace hx496_5 := (HB.out.cell (World.block_lt_of_cell? w _ hx496_5)).trans hx496_5
     replace p496 := eq_true p496
     replace q496 := eq_true q496
     go_wp2
     go_meet
     case rel => exact ⟨_, (true), (by first | rfl | (simp; done) | (simp [*]; done)), H', ⟨by have := HK1.out; first | omega | exact Nat.le_refl _⟩, ⟨by (with_reducible repeat (first | apply Kd.rA | apply Kd.rN | apply Kd.rD)); exact HO_5.out⟩, ⟨by repeat (first | (with_reducible first | exact HB.out | apply bA | apply bN | apply bD) | exact HB.out)⟩⟩
    rw [if_neg c9] at H
    have c9b0 : (((rd_T58 l0 x7_1).f0) == 5) = false := beq_eq_false_iff_ne.mpr c9
    have c9b1 : (((rd_T58 l0 x7_1).f0) != 5) = true := bne_iff_ne.mpr c9
    have H' := Aside0.mk H
    clear H
    have p496 : 0 ≤ (x7_1 : Int) := of_decide_eq_true (by first | (with_reducible assumption) | assumption)
    have q496 : x7_1 < (l0.length : Int) := of_decide_eq_true (by first | (with_reducible assumption) | assumption)
    obtain ⟨ad496, e496, hx496_0, hx496_1, hx496_2, hx496_3, hx496_4, hx496_5⟩ := at_T58 HR0.out x7_1 p496 q496
    cases e496
    replace hx496_0 := (HB.out.cell (World.block_lt_of_cell? w _ hx496_0)).trans hx496_0
    replace hx496_1 := (HB.out.cell (World.block_lt_of_cell? w _ hx496_1)).trans hx496_1
    replace hx496_2 := (HB.out.cell (World.block_lt_of_cell? w _ hx496_2)).trans hx496_2
    replace hx496_3 := (HB.out.cell (World.block_lt_of_cell? w _ hx496_3)).trans hx496_3
    replace hx496_4 := (HB.out.cell (World.block_lt_of_cell? w _ hx496_4)).trans hx496_4
    replace hx496_5 := (HB.out.cell (World.block_lt_of_cell? w _ hx496_5)).trans hx496_5
    replace p496 := eq_true p496
    replace q496 := eq_true q496
    have p497 : 0 ≤ (x7_1 : Int) := of_decide_eq_true (by first | (with_reducible assumption) | assumption)
    have q497 : x7_1 < (l0.length : Int) := of_decide_eq_true (by first | (with_reducible assumption) | assumption)
    obtain ⟨ad497, e497, hx497_0, hx497_1, hx497_2, hx497_3, hx497_4, hx497_5⟩ := at_T58 HR0.out x7_1 p497 q497
    obtain rfl : ad496 = ad497 := (by injection e497)
    replace hx497_0 := (HB.out.cell (World.block_lt_of_cell? w _ hx497_0)).trans hx497_0
    replace hx497_1 := (HB.out.cell (World.block_lt_of_cell? w _ hx497_1)).trans hx497_1
    replace hx497_2 := (HB.out.cell (World.block_lt_of_cell? w _ hx497_2)).trans hx497_2
    replace hx497_3 := (HB.out.cell (World.block_lt_of_cell? w _ hx497_3)).trans hx497_3
    replace hx497_4 := (HB.out.cell (World.block_lt_of_cell? w _ hx497_4)).trans hx497_4
    replace hx497_5 := (HB.out.cell (World.block_lt_of_cell? w _ hx497_5)).trans hx497_5
    replace p497 := eq_true p497
    replace q497 := eq_true q497
    go_wp2
    go_meet
    case rel => exact ⟨_, ((((rd_T58 l0 x7_1).f0) == 3)), (by first | rfl | (simp; done) | (simp [*]; done)), H', ⟨by have := HK1.out; first | omega | exact Nat.le_refl _⟩, ⟨by (with_reducible repeat (first | apply Kd.rA | apply Kd.rN | apply Kd.rD)); exact HO_5.out⟩, ⟨by repeat (first | (with_reducible first | exact HB.out | apply bA | apply bN | apply bD) | exact HB.out)⟩⟩
   clear HC7
   try clear c2
   try clear p2
   try clear c3
   try clear c3b0
   try clear c3b1
   try clear p4
   try clear q4
   try clear hx4
   try clear c6
   try clear c6b0
   try clear c8
   try clear c8b0
   try clear c9
   try clear c9b0
   try clear c9b1
   try clear hx496_0
   try clear hx496_1
   try clear hx496_2
   try clear hx496_3
   try clear hx496_4
   try clear hx496_5
   try clear hx497_0
   try clear hx497_1
   try clear hx497_2
   try clear hx497_3
   try clear hx497_4
   try clear hx497_5
   try clear p2
   try clear p496
   try clear p497
   try clear q496
   try clear q497
   obtain ⟨kq, x33_6, rfl, HA, HJ6, HO_5, HB⟩ := hcut
   cases kq with
   | zero => exact absurd HA.out (by simp [salchowref25_Missing.j1])
   | succ kj6 =>
    have H := HA.out
    clear HA
    simp only [salchowref25_Missing.j1] at H
    by_cases c10 : x33_6 = true
    ·subst c10
     have H1 : (if x5_1.length < 17592186044416 then ((some (x5_1 ++ [x6_1] : List Int)).bind fun y498 => (if 0 ≤ x7_1 then (if x7_1 < (l0.length : Int) then (if ((rd_T58 l0 x7_1).f0) = 4 then (salchowref25_Missing.l0 kj6 l0 y498 x6_1 (wrap64 (x7_1 + 1))) else (salchowref25_Missing.l0 kj6 l0 y498 (wrap64 (x6_1 + 1)) (wrap64 (x7_1 + 1)))) else (none)) else (none))) else (none)) = some (r1, r2) := by rw [if_pos rfl] at H; exact H
     clear H
     have H := H1
     clear H1
     by_cases c11 : x5_1.length < 17592186044416
     rotate_left
     ·rw [if_neg c11] at H
      exact absurd H (by simp)
     rw [if_pos c11] at H
     have LMc11 := Aside0.mk c11
     clear c11
     obtain ⟨y498, hy498⟩ : ∃ y_ : List Int, y_ = (x5_1 ++ [x6_1]) := ⟨_, rfl⟩
     replace H : (if 0 ≤ x7_1 then (if x7_1 < (l0.length : Int) then (if ((rd_T58 l0 x7_1).f0) = 4 then (salchowref25_Missing.l0 kj6 l0 y498 x6_1 (wrap64 (x7_1 + 1))) else (salchowref25_Missing.l0 kj6 l0 y498 (wrap64 (x6_1 + 1)) (wrap64 (x7_1 + 1)))) else (none)) else (none)) = some (r1, r2) := by first | (rw [hy498]; with_reducible exact H) | (have H2_ := (Option.bind_some _ _).symm.trans H; rw [hy498]; with_reducible exact H2_) | (have H2_ := (Option.bind_some _ _).symm.trans H; with_reducible exact H2_) | with_reducible exact H | (rw [hy498]; exact H) | exact H
     have Ny498 := Aside0.mk hy498
     clear hy498
     by_cases c12 : 0 ≤ x7_1
     rotate_left
     ·rw [if_neg c12] at H
      exact absurd H (by simp)
     rw [if_pos c12] at H
     have c12b0 : decide (0 ≤ x7_1) = true := decide_eq_true c12
     clear c12
     by_cases c13 : x7_1 < (l0.length : Int)
     rotate_left
     ·rw [if_neg c13] at H
      exact absurd H (by simp)
     rw [if_pos c13] at H
     have c13b0 : decide (x7_1 < (l0.length : Int)) = true := decide_eq_true c13
     clear c13
     by_cases c14 : ((rd_T58 l0 x7_1).f0) = 4
     rotate_left
     ·rw [if_neg c14] at H
      have c14b0 : (((rd_T58 l0 x7_1).f0) == 4) = false := beq_eq_false_iff_ne.mpr c14
      have c14b1 : (((rd_T58 l0 x7_1).f0) != 4) = true := bne_iff_ne.mpr c14
      have H' := Aside0.mk H
      clear H
      go_wp2_with (first | ((with_reducible refine gate_builtin (b := .append) (xs := #[.tmp 34, .tmp 36]) rfl ?_); at_builtin; refine Kd.R_append (Kd.int .i64) (w0 := w) w.heap.size rfl (.tmp 34) (.tmp 36) 45 3 (.int .i64 0) 8 rfl Try.underlying45 info3 rfl (by decide) (by omega) u5 x5_1 x6_1 [.int .i64 x6_1] (fun _ => True) (fun _ => False) rfl rfl ?aP (fun _ hk => hk.elim) ?aF ?aO ?aB ?aS ?aL ?_; (case aP => exact rfl); (case aB => exact (by repeat (first | (with_reducible first | exact HB.out | apply bA | apply bN | apply bD) | exact HB.out))); (case aF => exact (fun _ _ => trivial)); (case aO => exact (by (with_reducible repeat (first | apply Kd.rA | apply Kd.rN | apply Kd.rD)); exact HO_5.out)); (case aS => exact (below_size (by repeat (first | (with_reducible first | exact HB.out | apply bA | apply bN | apply bD) | exact HB.out)))); (case aL => have := LMc11.out; omega); intro v499 w16 ho hb hg hat; rw [← Ny498.out] at ho; have n0_ := Aside0.mk (hb); have n1_ := Aside0.mk (ho); clear HB; clear HO_5; have HB := n0_; have HO500 := n1_; clear n0_ n1_; clear ho hb hg hat; have p501 : 0 ≤ (x7_1 : Int) := of_decide_eq_true (by first | (with_reducible assumption) | assumption); have q501 : x7_1 < (l0.length : Int) := of_decide_eq_true (by first | (with_reducible assumption) | assumption); obtain ⟨ad501, e501, hx501_0, hx501_1, hx501_2, hx501_3, hx501_4, hx501_5⟩ := at_T58 HR0.out x7_1 p501 q501; cases e501; replace hx501_0 := (HB.out.cell (World.block_lt_of_cell? w _ hx501_0)).trans hx501_0; replace hx501_1 := (HB.out.cell (World.block_lt_of_cell? w _ hx501_1)).trans hx501_1; replace hx501_2 := (HB.out.cell (World.block_lt_of_cell? w _ hx501_2)).trans hx501_2; replace hx501_3 := (HB.out.cell (World.block_lt_of_cell? w _ hx501_3)).trans hx501_3; replace hx501_4 := (HB.out.cell (World.block_lt_of_cell? w _ hx501_4)).trans hx501_4; replace hx501_5 := (HB.out.cell (World.block_lt_of_cell? w _ hx501_5)).trans hx501_5; replace p501 := eq_true p501; replace q501 := eq_true q501))
      go_roundg kj6
      case measure => have := HK1.out; have := HJ6.out; omega
      case rel => exact ⟨(y498), (wrap64 (x6_1 + 1)), (wrap64 (x7_1 + 1)), (by first | rfl | (simp; done) | (simp [*]; done)), (by first | rfl | (simp; done) | (simp [*]; done)), H', ⟨by have := HK1.out; have := HJ6.out; omega⟩, ⟨by (with_reducible repeat (first | apply Kd.rA | apply Kd.rN | apply Kd.rD)); exact HO500.out⟩, ⟨by repeat (first | (with_reducible first | exact HB.out | apply bA | apply bN | apply bD) | exact HB.out)⟩⟩
     rw [if_pos c14] at H
     have c14b0 : (((rd_T58 l0 x7_1).f0) == 4) = true := beq_iff_eq.mpr c14
     have c14b1 : (((rd_T58 l0 x7_1).f0) != 4) = false := bne_eq_false_iff_eq.mpr c14
     clear c14
     have H' := Aside0.mk H
     clear H
     go_wp2_with (first | ((with_reducible refine gate_builtin (b := .append) (xs := #[.tmp 34, .tmp 36]) rfl ?_); at_builtin; refine Kd.R_append (Kd.int .i64) (w0 := w) w.heap.size rfl (.tmp 34) (.tmp 36) 45 3 (.int .i64 0) 8 rfl Try.underlying45 info3 rfl (by decide) (by omega) u5 x5_1 x6_1 [.int .i64 x6_1] (fun _ => True) (fun _ => False) rfl rfl ?aP (fun _ hk => hk.elim) ?aF ?aO ?aB ?aS ?aL ?_; (case aP => exact rfl); (case aB => exact (by repeat (first | (with_reducible first | exact HB.out | apply bA | apply bN | apply bD) | exact HB.out))); (case aF => exact (fun _ _ => trivial)); (case aO => exact (by (with_reducible repeat (first | apply Kd.rA | apply Kd.rN | apply Kd.rD)); exact HO_5.out)); (case aS => exact (below_size (by repeat (first | (with_reducible first | exact HB.out | apply bA | apply bN | apply bD) | exact HB.out)))); (case aL => have := LMc11.out; omega); intro v499 w15 ho hb hg hat; rw [← Ny498.out] at ho; have n0_ := Aside0.mk (hb); have n1_ := Aside0.mk (ho); clear HB; clear HO_5; have HB := n0_; have HO500 := n1_; clear n0_ n1_; clear ho hb hg hat; have p501 : 0 ≤ (x7_1 : Int) := of_decide_eq_true (by first | (with_reducible assumption) | assumption); have q501 : x7_1 < (l0.length : Int) := of_decide_eq_true (by first | (with_reducible assumption) | assumption); obtain ⟨ad501, e501, hx501_0, hx501_1, hx501_2, hx501_3, hx501_4, hx501_5⟩ := at_T58 HR0.out x7_1 p501 q501; cases e501; replace hx501_0 := (HB.out.cell (World.block_lt_of_cell? w _ hx501_0)).trans hx501_0; replace hx501_1 := (HB.out.cell (World.block_lt_of_cell? w _ hx501_1)).trans hx501_1; replace hx501_2 := (HB.out.cell (World.block_lt_of_cell? w _ hx501_2)).trans hx501_2; replace hx501_3 := (HB.out.cell (World.block_lt_of_cell? w _ hx501_3)).trans hx501_3; replace hx501_4 := (HB.out.cell (World.block_lt_of_cell? w _ hx501_4)).trans hx501_4; replace hx501_5 := (HB.out.cell (World.block_lt_of_cell? w _ hx501_5)).trans hx501_5; replace p501 := eq_true p501; replace q501 := eq_true q501))
     go_roundg kj6
     case measure => have := HK1.out; have := HJ6.out; omega
     case rel => exact ⟨(y498), (x6_1), (wrap64 (x7_1 + 1)), (by first | rfl | (simp; done) | (simp [*]; done)), (by first | rfl | (simp; done) | (simp [*]; done)), H', ⟨by have := HK1.out; have := HJ6.out; omega⟩, ⟨by (with_reducible repeat (first | apply Kd.rA | apply Kd.rN | apply Kd.rD)); exact HO500.out⟩, ⟨by repeat (first | (with_reducible first | exact HB.out | apply bA | apply bN | apply bD) | exact HB.out)⟩⟩
    replace c10 := Bool.eq_false_iff.mpr c10
    subst c10
    have H1 : (if 0 ≤ x7_1 then (if x7_1 < (l0.length : Int) then (if ((rd_T58 l0 x7_1).f0) = 4 then (salchowref25_Missing.l0 kj6 l0 x5_1 x6_1 (wrap64 (x7_1 + 1))) else (salchowref25_Missing.l0 kj6 l0 x5_1 (wrap64 (x6_1 + 1)) (wrap64 (x7_1 + 1)))) else (none)) else (none)) = some (r1, r2) := by rw [if_neg (show ¬ (false = true) by decide)] at H; exact H
    clear H
    have H := H1
    clear H1
    by_cases c17 : 0 ≤ x7_1
    rotate_left
    ·rw [if_neg c17] at H
     exact absurd H (by simp)
    rw [if_pos c17] at H
    have c17b0 : decide (0 ≤ x7_1) = true := decide_eq_true c17
    clear c17
    by_cases c18 : x7_1 < (l0.length : Int)
    rotate_left
    ·rw [if_neg c18] at H
     exact absurd H (by simp)
    rw [if_pos c18] at H
    have c18b0 : decide (x7_1 < (l0.length : Int)) = true := decide_eq_true c18
    clear c18
    by_cases c19 : ((rd_T58 l0 x7_1).f0) = 4
    rotate_left
    ·rw [if_neg c19] at H
     have c19b0 : (((rd_T58 l0 x7_1).f0) == 4) = false := beq_eq_false_iff_ne.mpr c19
     have c19b1 : (((rd_T58 l0 x7_1).f0) != 4) = true := bne_iff_ne.mpr c19
     have H' := Aside0.mk H
     clear H
     have p502 : 0 ≤ (x7_1 : Int) := of_decide_eq_true (by first | (with_reducible assumption) | assumption)
     have q502 : x7_1 < (l0.length : Int) := of_decide_eq_true (by first | (with_reducible assumption) | assumption)
     obtain ⟨ad502, e502, hx502_0, hx502_1, hx502_2, hx502_3, hx502_4, hx502_5⟩ := at_T58 HR0.out x7_1 p502 q502
     cases e502
     replace hx502_0 := (HB.out.cell (World.block_lt_of_cell? w _ hx502_0)).trans hx502_0
     replace hx502_1 := (HB.out.cell (World.block_lt_of_cell? w _ hx502_1)).trans hx502_1
     replace hx502_2 := (HB.out.cell (World.block_lt_of_cell? w _ hx502_2)).trans hx502_2
     replace hx502_3 := (HB.out.cell (World.block_lt_of_cell? w _ hx502_3)).trans hx502_3
     replace hx502_4 := (HB.out.cell (World.block_lt_of_cell? w _ hx502_4)).trans hx502_4
     replace hx502_5 := (HB.out.cell (World.block_lt_of_cell? w _ hx502_5)).trans hx502_5
     replace p502 := eq_true p502
     replace q502 := eq_true q502
     go_wp2
     go_roundg kj6
     case measure => have := HK1.out; have := HJ6.out; omega
     case rel => exact ⟨(x5_1), (wrap64 (x6_1 + 1)), (wrap64 (x7_1 + 1)), (by first | rfl | (simp; done) | (simp [*]; done)), (by first | rfl | (simp; done) | (simp [*]; done)), H', ⟨by have := HK1.out; have := HJ6.out; omega⟩, ⟨by (with_reducible repeat (first | apply Kd.rA | apply Kd.rN | apply Kd.rD)); exact HO_5.out⟩, ⟨by repeat (first | (with_reducible first | exact HB.out | apply bA | apply bN | apply bD) | exact HB.out)⟩⟩
    rw [if_pos c19] at H
    have c19b0 : (((rd_T58 l0 x7_1).f0) == 4) = true := beq_iff_eq.mpr c19
    have c19b1 : (((rd_T58 l0 x7_1).f0) != 4) = false := bne_eq_false_iff_eq.mpr c19
    clear c19
    have H' := Aside0.mk H
    clear H
    have p502 : 0 ≤ (x7_1 : Int) := of_decide_eq_true (by first | (with_reducible assumption) | assumption)
    have q502 : x7_1 < (l0.length : Int) := of_decide_eq_true (by first | (with_reducible assumption) | assumption)
    obtain ⟨ad502, e502, hx502_0, hx502_1, hx502_2, hx502_3, hx502_4, hx502_5⟩ := at_T58 HR0.out x7_1 p502 q502
    cases e502
    replace hx502_0 := (HB.out.cell (World.block_lt_of_cell? w _ hx502_0)).trans hx502_0
    replace hx502_1 := (HB.out.cell (World.block_lt_of_cell? w _ hx502_1)).trans hx502_1
    replace hx502_2 := (HB.out.cell (World.block_lt_of_cell? w _ hx502_2)).trans hx502_2
    replace hx502_3 := (HB.out.cell (World.block_lt_of_cell? w _ hx502_3)).trans hx502_3
    replace hx502_4 := (HB.out.cell (World.block_lt_of_cell? w _ hx502_4)).trans hx502_4
    replace hx502_5 := (HB.out.cell (World.block_lt_of_cell? w _ hx502_5)).trans hx502_5
    replace p502 := eq_true p502
    replace q502 := eq_true q502
    go_wp2
    go_roundg kj6
    case measure => have := HK1.out; have := HJ6.out; omega
    case rel => exact ⟨(x5_1), (x6_1), (wrap64 (x7_1 + 1)), (by first | rfl | (simp; done) | (simp [*]; done)), (by first | rfl | (simp; done) | (simp [*]; done)), H', ⟨by have := HK1.out; have := HJ6.out; omega⟩, ⟨by (with_reducible repeat (first | apply Kd.rA | apply Kd.rN | apply Kd.rD)); exact HO_5.out⟩, ⟨by repeat (first | (with_reducible first | exact HB.out | apply bA | apply bN | apply bD) | exact HB.out)⟩⟩
end Go.Proofs.Ytjmbkbnbepmhjaa.P
