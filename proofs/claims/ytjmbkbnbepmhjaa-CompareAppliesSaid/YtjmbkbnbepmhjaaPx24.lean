-- out of a program (drive.sh), by way of the translation's print
import Derived.Test.YtjmbkbnbepmhjaaPx0
import Derived.Test.YtjmbkbnbepmhjaaPx23
namespace Go.Proofs.Ytjmbkbnbepmhjaa.P
open Go.RowKit Go.Proofs.YtjmbkbnbepmhjaaW.PrintWords Go.Proofs.YtjmbkbnbepmhjaaW.PrintLast Go.Proofs.YtjmbkbnbepmhjaaW.PrintMore
attribute [local go_sem] max2_int min2_int max_two min_two max_three min_three max_four min_four   -- for this text's walks alone
set_option linter.unusedVariables false
set_option linter.unusedSimpArgs false

/-! ### salchowref25_apply: function 39 -/
def salchowref25_apply.l0 : Nat → List (S50) → List (S58) → List (S50) → List (S58) → Int → Int → Option ((List (S50)) × (List (S58)) × Bool)
 | 0, _, _, _, _, _, _ => none
 | k + 1, x0, x1, x7, x8, x9, x10 => if x10 < (x1.length : Int) then (if 0 ≤ x10 then (if ((rd_T58 x1 x10).f0) = 4 then ((some (([(⟨(rd_T58 x1 x10).f1.f0, (rd_T58 x1 x10).f1.f1, (rd_T58 x1 x10).f1.f2, (rd_T58 x1 x10).f1.f3, (rd_T58 x1 x10).f1.f4⟩ : S50)] : List (S50)) : List (S50))).bind fun y279 => (if x7.length + y279.length < 4398046511104 then ((some (([(⟨5, (⟨(⟨#[]⟩ : ByteArray), 0, false, false, false⟩ : S50)⟩ : S58)] : List (S58)) : List (S58))).bind fun y285 => (if x8.length + y285.length < 3518437208883 then (salchowref25_apply.l0 k x0 x1 (x7 ++ y279) (x8 ++ y285) x9 (wrap64 (x10 + 1))) else (none))) else (none))) else (if x9 = (x0.length : Int) then (some (([] : List (S50)), ([] : List (S58)), false)) else (if 0 ≤ x9 then (if x9 < (x0.length : Int) then (if ((rd_T58 x1 x10).f0) = 1 then ((some (([(⟨(rd_T50 x0 x9).f0, (rd_T50 x0 x9).f1, (rd_T50 x0 x9).f2, (rd_T50 x0 x9).f3, (rd_T50 x0 x9).f4⟩ : S50)] : List (S50)) : List (S50))).bind fun y294 => (if x7.length + y294.length < 4398046511104 then ((some (([(⟨1, (⟨(⟨#[]⟩ : ByteArray), 0, false, false, false⟩ : S50)⟩ : S58)] : List (S58)) : List (S58))).bind fun y300 => (if x8.length + y300.length < 3518437208883 then (salchowref25_apply.l0 k x0 x1 (x7 ++ y294) (x8 ++ y300) (wrap64 (x9 + 1)) (wrap64 (x10 + 1))) else (none))) else (none))) else (if ((rd_T58 x1 x10).f0) = 5 then ((some (([(⟨4, (⟨(rd_T50 x0 x9).f0, (rd_T50 x0 x9).f1, (rd_T50 x0 x9).f2, (rd_T50 x0 x9).f3, (rd_T50 x0 x9).f4⟩ : S50)⟩ : S58)] : List (S58)) : List (S58))).bind fun y306 => (if x8.length + y306.length < 3518437208883 then (salchowref25_apply.l0 k x0 x1 x7 (x8 ++ y306) (wrap64 (x9 + 1)) (wrap64 (x10 + 1))) else (none))) else ((salchowref25_Turn.f ((rd_T50 x0 x9).f0) ((rd_T50 x0 x9).f1) ((rd_T50 x0 x9).f2) ((rd_T50 x0 x9).f3) ((rd_T50 x0 x9).f4) ((rd_T58 x1 x10).f1.f0) ((rd_T58 x1 x10).f1.f1) ((rd_T58 x1 x10).f1.f2) ((rd_T58 x1 x10).f1.f3) ((rd_T58 x1 x10).f1.f4)).bind fun t313 => (if t313 = ((rd_T58 x1 x10).f0) then ((some (([(⟨(rd_T58 x1 x10).f1.f0, (rd_T58 x1 x10).f1.f1, (rd_T58 x1 x10).f1.f2, (rd_T58 x1 x10).f1.f3, (rd_T58 x1 x10).f1.f4⟩ : S50)] : List (S50)) : List (S50))).bind fun y316 => (if x7.length + y316.length < 4398046511104 then ((some (([(⟨(rd_T58 x1 x10).f0, (⟨(rd_T50 x0 x9).f0, (rd_T50 x0 x9).f1, (rd_T50 x0 x9).f2, (rd_T50 x0 x9).f3, (rd_T50 x0 x9).f4⟩ : S50)⟩ : S58)] : List (S58)) : List (S58))).bind fun y323 => (if x8.length + y323.length < 3518437208883 then (salchowref25_apply.l0 k x0 x1 (x7 ++ y316) (x8 ++ y323) (wrap64 (x9 + 1)) (wrap64 (x10 + 1))) else (none))) else (none))) else (some (([] : List (S50)), ([] : List (S58)), false)))))) else (none)) else (none)))) else (none)) else (some (x7, x8, (x9 == (x0.length : Int))))
def salchowref25_apply.f (k : Nat) (l0 : List (S50)) (l1 : List (S58)) : Option ((List (S50)) × (List (S58)) × Bool) := salchowref25_apply.l0 k l0 l1 (([] : List (S50))) (([] : List (S58))) 0 0
theorem salchowref25_apply.mono_l : ∀ k, (∀ y0 y1 y2 y3 y4 y5, LeO (salchowref25_apply.l0 k y0 y1 y2 y3 y4 y5) (salchowref25_apply.l0 (k + 1) y0 y1 y2 y3 y4 y5))
 | 0 => fun _ _ _ _ _ _ r h => by simp [salchowref25_apply.l0] at h
 | k + 1 => by
  have ih0 := salchowref25_apply.mono_l k
  ·intro y0 y1 y2 y3 y4 y5
   unfold salchowref25_apply.l0
   repeat' first
   | (with_reducible exact ih0 _ _ _ _ _ _)
   | (with_reducible exact LeO.refl _)
   | (with_reducible exact LeO.none _)
   | (with_reducible refine LeO.ite ?_ ?_)
   | (with_reducible refine LeO.bind ?_ (fun _ => ?_))
   | exact ih0 _ _ _ _ _ _
   | exact LeO.none _
   | refine LeO.ite ?_ ?_
   | refine LeO.bind ?_ (fun _ => ?_)
theorem salchowref25_apply.mono : ∀ a0 a1 k, LeO (salchowref25_apply.f k a0 a1) (salchowref25_apply.f (k + 1) a0 a1) := by
 intro a0 a1 k
 have ih0 := salchowref25_apply.mono_l k
 unfold salchowref25_apply.f
 repeat' first
   | (with_reducible exact ih0 _ _ _ _ _ _)
   | (with_reducible exact LeO.refl _)
   | (with_reducible exact LeO.none _)
   | (with_reducible refine LeO.ite ?_ ?_)
   | (with_reducible refine LeO.bind ?_ (fun _ => ?_))
   | exact ih0 _ _ _ _ _ _
   | exact LeO.none _
   | refine LeO.ite ?_ ?_
   | refine LeO.bind ?_ (fun _ => ?_)
def salchowref25_apply.T13 : Bool × List (List Nat × List Nat) := (true, [([], []), ([], []), ([], []), ([1, 2], [1, 2]), ([3], [3]), ([4], [4]), ([0, 5], [0, 5]), ([], []), ([], []), ([7, 8], [7, 8]), ([9], [9]), ([10], [10]), ([6, 11], [6, 11])])
def salchowref25_apply.B13 : List Nat := [0, 0, 0, 6, 14, 30, 63, 0, 0, 384, 896, 1920, 4095]
theorem salchowref25_apply.tab13 : rtab .any (opsOf Try.f39 13) = salchowref25_apply.T13 := by kernel_rfl
theorem salchowref25_apply.bits13 : waitsOk salchowref25_apply.T13.2 salchowref25_apply.B13 = true := by kernel_rfl
def salchowref25_apply.T15 : Bool × List (List Nat × List Nat) := (true, [([], []), ([], []), ([], []), ([1, 2], [1, 2]), ([3], [3]), ([4], [4]), ([5], [5]), ([0, 6], [0, 6]), ([], []), ([], []), ([], []), ([9, 10], [9, 10]), ([11], [11]), ([12], [12]), ([], []), ([13, 14], [13, 14]), ([15], [15]), ([8, 16, 7], [8, 16]), ([7, 17, 0, 1, 2, 3, 4, 5, 6, 7], [0, 7]), ([17, 18, 0, 1, 2, 3, 4, 5, 6, 7, 8, 9, 10, 11, 12, 13, 14, 15, 16, 17, 18], [8, 17])])
def salchowref25_apply.B15 : List Nat := [0, 0, 0, 6, 14, 30, 62, 127, 0, 0, 0, 1536, 3584, 7680, 0, 32256, 65024, 131071, 262143, 524287]
theorem salchowref25_apply.tab15 : rtab .any (opsOf Try.f39 15) = salchowref25_apply.T15 := by kernel_rfl
theorem salchowref25_apply.bits15 : waitsOk salchowref25_apply.T15.2 salchowref25_apply.B15 = true := by kernel_rfl
set_option maxHeartbeats 8000000 in
set_option maxRecDepth 100000 in
theorem salchowref25_apply.calls (k : Nat) (A0 : Option Addr) (c0 : Nat) (l0 : List (S50)) (A1 : Option Addr) (c1 : Nat) (l1 : List (S58)) (r1 : List (S50)) (r2 : List (S58)) (r3 : Bool) (w : World) (hr0 : Kd.C k50 w A0 l0.length l0) (hc0 : l0.length ≤ c0) (hr1 : Kd.C k58 w A1 l1.length l1) (hc1 : l1.length ≤ c1) (h : salchowref25_apply.f k l0 l1 = some (r1, r2, r3)) :
  Calls Try.prog 39 #[.slice A0 l0.length c0, .slice A1 l1.length c1] w fun e w' => ∃ v0_ v1_ : Value, e = .returned (.tuple #[v0_, v1_, .bool r3]) ∧ Kd.R k50 50 w' w.heap.size (fun _ => True) v0_ r1 ∧ Kd.R k58 58 w' w.heap.size (fun _ => True) v1_ r2 ∧ Below w.heap.size w w' := by
 have hu50 := Try.underlying50
 have hu58 := Try.underlying58
 have HR0 := Aside0.mk hr0
 have HC0 := Aside0.mk hc0
 clear hr0 hc0
 have HR1 := Aside0.mk hr1
 have HC1 := Aside0.mk hc1
 clear hr1 hc1
 have HB := Aside0.mk (Below.refl w.heap.size w)
 have H : (salchowref25_apply.l0 k l0 l1 (([] : List (S50))) (([] : List (S58))) 0 0) = some (r1, r2, r3) := h
 clear h
 obtain ⟨y271, hy271⟩ : ∃ y_ : List (S50), y_ = (([] : List (S50))) := ⟨_, rfl⟩
 replace H : (salchowref25_apply.l0 k l0 l1 y271 (([] : List (S58))) 0 0) = some (r1, r2, r3) := by first | (rw [hy271]; with_reducible exact H) | (have H2_ := (Option.bind_some _ _).symm.trans H; rw [hy271]; with_reducible exact H2_) | (have H2_ := (Option.bind_some _ _).symm.trans H; with_reducible exact H2_) | with_reducible exact H | (rw [hy271]; exact H) | exact H
 have Ny271 := Aside0.mk hy271
 clear hy271
 obtain ⟨y274, hy274⟩ : ∃ y_ : List (S58), y_ = (([] : List (S58))) := ⟨_, rfl⟩
 replace H : (salchowref25_apply.l0 k l0 l1 y271 y274 0 0) = some (r1, r2, r3) := by first | (rw [hy274]; with_reducible exact H) | (have H2_ := (Option.bind_some _ _).symm.trans H; rw [hy274]; with_reducible exact H2_) | (have H2_ := (Option.bind_some _ _).symm.trans H; with_reducible exact H2_) | with_reducible exact H | (rw [hy274]; exact H) | exact H
 have Ny274 := Aside0.mk hy274
 clear hy274
 have H' := Aside0.mk H
 clear H
 go_enter Try.func39, Try.ntmps39
 go_wp2_with (first | ((with_reducible refine gate_dst (N := 12) rfl ?_); refine Kd.R_lit k50 _ 50 ?hg (N := 12) ?hd (xs := ([] : List (S50))) (inner := []) (ok := fun _ => True) (okp := fun _ => True) ?hr ?hp (fun _ hk => hk) trivial (Below.refl _ _) (Nat.le_refl _) (by simp) ?_; (case hd => rfl); (case hg => rfl); (case hr => first | (go_simp; done) | (go_simp; rfl)); (case hp => exact (Reps.none _ _)); intro v272 w3 ho4 hb hg_ hnew_; clear hg_ hnew_; (first | rw [← Ny271.out] at ho4 | (simp only [Int.reduceToNat] at ho4; rw [← Ny271.out] at ho4)); have n0_ := Aside0.mk (Kd.R_lower ho4 (below_size (by repeat (first | (with_reducible first | exact HB.out | apply bA | apply bN | apply bD) | exact HB.out)))); have n1_ := Aside0.mk (below_step (by repeat (first | (with_reducible first | exact HB.out | apply bA | apply bN | apply bD) | exact HB.out)) hb); clear HB; have HO273 := n0_; have HB := n1_; clear n0_ n1_; clear hb ho4) | ((with_reducible refine gate_dst (N := 13) rfl ?_); refine Kd.R_lit k58 _ 58 ?hg (N := 13) ?hd (xs := ([] : List (S58))) (inner := []) (ok := fun _ => True) (okp := fun _ => True) ?hr ?hp (fun _ hk => hk) trivial (Below.refl _ _) (Nat.le_refl _) (by simp) ?_; (case hd => rfl); (case hg => rfl); (case hr => first | (go_simp; done) | (go_simp; rfl)); (case hp => exact (Reps.none _ _)); intro v275 w5 ho6 hb hg_ hnew_; clear hg_ hnew_; (first | rw [← Ny274.out] at ho6 | (simp only [Int.reduceToNat] at ho6; rw [← Ny274.out] at ho6)); have n0_ := Aside0.mk (Kd.R_below (by (with_reducible repeat (first | apply Kd.rA | apply Kd.rN | apply Kd.rD)); exact HO273.out) hb); have n1_ := Aside0.mk (Kd.R_lower ho6 (below_size (by repeat (first | (with_reducible first | exact HB.out | apply bA | apply bN | apply bD) | exact HB.out)))); have n2_ := Aside0.mk (below_step (by repeat (first | (with_reducible first | exact HB.out | apply bA | apply bN | apply bD) | exact HB.out)) hb); clear HO273; clear HB; have HO273 := n0_; have HO276 := n1_; have HB := n2_; clear n0_ n1_ n2_; clear hb ho6))
 go_loopg [7, 8, 9, 10] k (fun kq v7 v8 v9 v10 w' => ∃ (x7_1 : List (S50)) (x8_1 : List (S58)) (x9_1 : Int) (x10_1 : Int), v9 = .int .i64 x9_1 ∧ v10 = .int .i64 x10_1 ∧ Aside0 (salchowref25_apply.l0 kq l0 l1 x7_1 x8_1 x9_1 x10_1 = some (r1, r2, r3)) ∧ Aside0 (kq ≤ k) ∧ Aside0 (Kd.R k50 50 w' w.heap.size (fun _ => True) v7 x7_1) ∧ Aside0 (Kd.R k58 58 w' w.heap.size (fun _ => True) v8 x8_1) ∧ Aside0 (Below w.heap.size w w'))
 case atStart => exact ⟨(y271), (y274), (0), (0), (by first | rfl | (simp; done) | (simp [*]; done)), (by first | rfl | (simp; done) | (simp [*]; done)), H', ⟨Nat.le_refl _⟩, ⟨by (with_reducible repeat (first | apply Kd.rA | apply Kd.rN | apply Kd.rD)); exact HO273.out⟩, ⟨by (with_reducible repeat (first | apply Kd.rA | apply Kd.rN | apply Kd.rD)); exact HO276.out⟩, ⟨by repeat (first | (with_reducible first | exact HB.out | apply bA | apply bN | apply bD) | exact HB.out)⟩⟩
 case round =>
  clear H'
  try clear c1
  try clear p2
  try clear c3
  obtain ⟨x7_1, x8_1, x9_1, x10_1, rfl, rfl, HA, HK1, HO_7, HO_8, HB⟩ := hrel
  cases gk with
  | zero => exact absurd HA.out (by simp [salchowref25_apply.l0])
  | succ k1 =>
   have H := HA.out
   clear HA
   simp only [salchowref25_apply.l0] at H
   by_cases c7 : x10_1 < (l1.length : Int)
   rotate_left
   ·rw [if_neg c7] at H
    have c7b0 : decide (x10_1 < (l1.length : Int)) = false := decide_eq_false c7
    clear c7
    simp only [Option.some.injEq, Prod.mk.injEq] at H
    obtain ⟨rfl, rfl, rfl⟩ := H
    go_wp2
    go_ret3
    exact ⟨_, _, by first | rfl | (simp [errW_none, errW_some] <;> rfl) | (simp [*, errW_none, errW_some] <;> rfl), by (with_reducible repeat (first | apply Kd.rA | apply Kd.rN | apply Kd.rD)); exact HO_7.out, by (with_reducible repeat (first | apply Kd.rA | apply Kd.rN | apply Kd.rD)); exact HO_8.out, by repeat (first | (with_reducible first | exact HB.out | apply bA | apply bN | apply bD) | exact HB.out)⟩

   rw [if_pos c7] at H
   have c7b0 : decide (x10_1 < (l1.length : Int)) = true := decide_eq_true c7
   clear c7
   by_cases c8 : 0 ≤ x10_1
   rotate_left
   ·rw [if_neg c8] at H
    exact absurd H (by simp)
   rw [if_pos c8] at H
   have c8b0 : decide (0 ≤ x10_1) = true := decide_eq_true c8
   clear c8
   by_cases c9 : ((rd_T58 l1 x10_1).f0) = 4
   ·rw [if_pos c9] at H
    have c9b0 : (((rd_T58 l1 x10_1).f0) == 4) = true := beq_iff_eq.mpr c9
    have c9b1 : (((rd_T58 l1 x10_1).f0) != 4) = false := bne_eq_false_iff_eq.mpr c9
    clear c9
    obtain ⟨y279, hy279⟩ : ∃ y_ : List (S50), y_ = (([(⟨(rd_T58 l1 x10_1).f1.f0, (rd_T58 l1 x10_1).f1.f1, (rd_T58 l1 x10_1).f1.f2, (rd_T58 l1 x10_1).f1.f3, (rd_T58 l1 x10_1).f1.f4⟩ : S50)] : List (S50))) := ⟨_, rfl⟩
    replace H : (if x7_1.length + y279.length < 4398046511104 then ((some (([(⟨5, (⟨(⟨#[]⟩ : ByteArray), 0, false, false, false⟩ : S50)⟩ : S58)] : List (S58)) : List (S58))).bind fun y285 => (if x8_1.length + y285.length < 3518437208883 then (salchowref25_apply.l0 k1 l0 l1 (x7_1 ++ y279) (x8_1 ++ y285) x9_1 (wrap64 (x10_1 + 1))) else (none))) else (none)) = some (r1, r2, r3) := by first | (rw [hy279]; with_reducible exact H) | (have H2_ := (Option.bind_some _ _).symm.trans H; rw [hy279]; with_reducible exact H2_) | (have H2_ := (Option.bind_some _ _).symm.trans H; with_reducible exact H2_) | with_reducible exact H | (rw [hy279]; exact H) | exact H
    have Ny279 := Aside0.mk hy279
    clear hy279
    by_cases c10 : x7_1.length + y279.length < 4398046511104
    rotate_left
    ·rw [if_neg c10] at H
     exact absurd H (by simp)
    rw [if_pos c10] at H
    have LMc10 := Aside0.mk c10
    clear c10
    obtain ⟨y282, hy282⟩ : ∃ y_ : List (S50), y_ = (x7_1 ++ y279) := ⟨_, rfl⟩
    replace H : ((some (([(⟨5, (⟨(⟨#[]⟩ : ByteArray), 0, false, false, false⟩ : S50)⟩ : S58)] : List (S58)) : List (S58))).bind fun y285 => (if x8_1.length + y285.length < 3518437208883 then (salchowref25_apply.l0 k1 l0 l1 y282 (x8_1 ++ y285) x9_1 (wrap64 (x10_1 + 1))) else (none))) = some (r1, r2, r3) := by first | (rw [hy282]; with_reducible exact H) | (have H2_ := (Option.bind_some _ _).symm.trans H; rw [hy282]; with_reducible exact H2_) | (have H2_ := (Option.bind_some _ _).symm.trans H; with_reducible exact H2_) | with_reducible exact H | (rw [hy282]; exact H) | exact H
    have Ny282 := Aside0.mk hy282
    clear hy282
    obtain ⟨y285, hy285⟩ : ∃ y_ : List (S58), y_ = (([(⟨5, (⟨(⟨#[]⟩ : ByteArray), 0, false, false, false⟩ : S50)⟩ : S58)] : List (S58))) := ⟨_, rfl⟩
    replace H : (if x8_1.length + y285.length < 3518437208883 then (salchowref25_apply.l0 k1 l0 l1 y282 (x8_1 ++ y285) x9_1 (wrap64 (x10_1 + 1))) else (none)) = some (r1, r2, r3) := by first | (rw [hy285]; with_reducible exact H) | (have H2_ := (Option.bind_some _ _).symm.trans H; rw [hy285]; with_reducible exact H2_) | (have H2_ := (Option.bind_some _ _).symm.trans H; with_reducible exact H2_) | with_reducible exact H | (rw [hy285]; exact H) | exact H
    have Ny285 := Aside0.mk hy285
    clear hy285
    by_cases c11 : x8_1.length + y285.length < 3518437208883
    rotate_left
    ·rw [if_neg c11] at H
     exact absurd H (by simp)
    rw [if_pos c11] at H
    have LMc11 := Aside0.mk c11
    clear c11
    obtain ⟨y288, hy288⟩ : ∃ y_ : List (S58), y_ = (x8_1 ++ y285) := ⟨_, rfl⟩
    replace H : (salchowref25_apply.l0 k1 l0 l1 y282 y288 x9_1 (wrap64 (x10_1 + 1))) = some (r1, r2, r3) := by first | (rw [hy288]; with_reducible exact H) | (have H2_ := (Option.bind_some _ _).symm.trans H; rw [hy288]; with_reducible exact H2_) | (have H2_ := (Option.bind_some _ _).symm.trans H; with_reducible exact H2_) | with_reducible exact H | (rw [hy288]; exact H) | exact H
    have Ny288 := Aside0.mk hy288
    clear hy288
    have H' := Aside0.mk H
    clear H
    have p277 : 0 ≤ (x10_1 : Int) := of_decide_eq_true (by first | (with_reducible assumption) | assumption)
    have q277 : x10_1 < (l1.length : Int) := of_decide_eq_true (by first | (with_reducible assumption) | assumption)
    obtain ⟨ad277, e277, hx277_0, hx277_1, hx277_2, hx277_3, hx277_4, hx277_5⟩ := at_T58 HR1.out x10_1 p277 q277
    cases e277
    replace hx277_0 := (HB.out.cell (World.block_lt_of_cell? w _ hx277_0)).trans hx277_0
    replace hx277_1 := (HB.out.cell (World.block_lt_of_cell? w _ hx277_1)).trans hx277_1
    replace hx277_2 := (HB.out.cell (World.block_lt_of_cell? w _ hx277_2)).trans hx277_2
    replace hx277_3 := (HB.out.cell (World.block_lt_of_cell? w _ hx277_3)).trans hx277_3
    replace hx277_4 := (HB.out.cell (World.block_lt_of_cell? w _ hx277_4)).trans hx277_4
    replace hx277_5 := (HB.out.cell (World.block_lt_of_cell? w _ hx277_5)).trans hx277_5
    replace p277 := eq_true p277
    replace q277 := eq_true q277
    have p278 : 0 ≤ (x10_1 : Int) := of_decide_eq_true (by first | (with_reducible assumption) | assumption)
    have q278 : x10_1 < (l1.length : Int) := of_decide_eq_true (by first | (with_reducible assumption) | assumption)
    obtain ⟨ad278, e278, hx278_0, hx278_1, hx278_2, hx278_3, hx278_4, hx278_5⟩ := at_T58 HR1.out x10_1 p278 q278
    obtain rfl : ad277 = ad278 := (by injection e278)
    replace hx278_0 := (HB.out.cell (World.block_lt_of_cell? w _ hx278_0)).trans hx278_0
    replace hx278_1 := (HB.out.cell (World.block_lt_of_cell? w _ hx278_1)).trans hx278_1
    replace hx278_2 := (HB.out.cell (World.block_lt_of_cell? w _ hx278_2)).trans hx278_2
    replace hx278_3 := (HB.out.cell (World.block_lt_of_cell? w _ hx278_3)).trans hx278_3
    replace hx278_4 := (HB.out.cell (World.block_lt_of_cell? w _ hx278_4)).trans hx278_4
    replace hx278_5 := (HB.out.cell (World.block_lt_of_cell? w _ hx278_5)).trans hx278_5
    replace p278 := eq_true p278
    replace q278 := eq_true q278
    go_wp2_with (first | ((with_reducible refine gate_dst (N := 32) rfl ?_); refine Kd.R_lit k50 _ 50 ?hg (N := 32) ?hd (xs := ([(⟨(rd_T58 l1 x10_1).f1.f0, (rd_T58 l1 x10_1).f1.f1, (rd_T58 l1 x10_1).f1.f2, (rd_T58 l1 x10_1).f1.f3, (rd_T58 l1 x10_1).f1.f4⟩ : S50)] : List (S50))) (inner := [.string ((rd_T58 l1 x10_1).f1.f0), .int .i64 ((rd_T58 l1 x10_1).f1.f1), .bool ((rd_T58 l1 x10_1).f1.f2), .bool ((rd_T58 l1 x10_1).f1.f3), .bool ((rd_T58 l1 x10_1).f1.f4)]) (ok := fun _ => True) (okp := fun _ => True) ?hr ?hp (fun _ hk => hk) trivial (Below.refl _ _) (Nat.le_refl _) (by simp) ?_; (case hd => rfl); (case hg => rfl); (case hr => first | (go_simp; done) | (go_simp; rfl)); (case hp => exact (Reps.c5 (show Kd.M k50 _ _ _ (⟨(rd_T58 l1 x10_1).f1.f0, (rd_T58 l1 x10_1).f1.f1, (rd_T58 l1 x10_1).f1.f2, (rd_T58 l1 x10_1).f1.f3, (rd_T58 l1 x10_1).f1.f4⟩ : S50) [.string ((rd_T58 l1 x10_1).f1.f0), .int .i64 ((rd_T58 l1 x10_1).f1.f1), .bool ((rd_T58 l1 x10_1).f1.f2), .bool ((rd_T58 l1 x10_1).f1.f3), .bool ((rd_T58 l1 x10_1).f1.f4)] from (k50_mkM _ _ _ (⟨(rd_T58 l1 x10_1).f1.f0, (rd_T58 l1 x10_1).f1.f1, (rd_T58 l1 x10_1).f1.f2, (rd_T58 l1 x10_1).f1.f3, (rd_T58 l1 x10_1).f1.f4⟩ : S50) )) (Reps.none _ _))); intro v280 w12 ho13 hb hg_ hnew_; clear hg_ hnew_; (first | rw [← Ny279.out] at ho13 | (simp only [Int.reduceToNat] at ho13; rw [← Ny279.out] at ho13)); have n0_ := Aside0.mk (Kd.R_elder' (by (with_reducible repeat (first | apply Kd.rA | apply Kd.rN | apply Kd.rD)); exact HO_7.out) (Kd.R_base ho13) hb); have n1_ := Aside0.mk (Kd.R_below (by (with_reducible repeat (first | apply Kd.rA | apply Kd.rN | apply Kd.rD)); exact HO_8.out) hb); have n2_ := Aside0.mk (Kd.R_lower (Kd.R_new' ho13 (Kd.R_lt (by (with_reducible repeat (first | apply Kd.rA | apply Kd.rN | apply Kd.rD)); exact HO_7.out))) (below_size (by repeat (first | (with_reducible first | exact HB.out | apply bA | apply bN | apply bD) | exact HB.out)))); have n3_ := Aside0.mk (below_step (by repeat (first | (with_reducible first | exact HB.out | apply bA | apply bN | apply bD) | exact HB.out)) hb); clear HO_7; clear HO_8; clear HB; have HO_7 := n0_; have HO_8 := n1_; have HO281 := n2_; have HB := n3_; clear n0_ n1_ n2_ n3_; clear hb ho13; obtain ⟨Ao15, co15, eo15⟩ := Kd.R_slice HO281.out; subst eo15) | ((with_reducible refine gate_builtin (b := .append) (xs := #[.tmp 26, .tmp 32]) rfl ?_); at_builtin; refine Kd.R_append_rows k50 (w0 := w) w.heap.size rfl (.tmp 26) (.tmp 32) 22 50 (.agg #[(.string ⟨#[]⟩), (.int .i64 0), (.bool false), (.bool false), (.bool false)]) 32 rfl Try.underlying22 info50 rfl (by decide) (by omega) u7 x7_1 y279 _ _ _ (fun k_ => some k_ ≠ (.slice Ao15 y279.length co15 : Value).ownBlock) (fun _ => False) rfl rfl ?aO ?aR (fun _ _ h => h) (fun _ h => h.elim) ?aF ?aB ?aS ?aL ?_; (case aR => repeat (first | exact (Kd.R_reads' HO281.out).2.2 | (with_reducible apply Kd.C_alloc) | (with_reducible apply Kd.C_drewN) | (with_reducible apply Kd.C_drew))); (case aB => exact (by repeat (first | (with_reducible first | exact HB.out | apply bA | apply bN | apply bD) | exact HB.out))); (case aF => exact (fun k_ hk => Kd.fresh' (Kd.R_lt (by (with_reducible repeat (first | apply Kd.rA | apply Kd.rN | apply Kd.rD)); exact HO281.out)) k_ hk)); (case aO => exact (by (with_reducible repeat (first | apply Kd.rA | apply Kd.rN | apply Kd.rD)); exact Kd.R_mono HO_7.out (fun _ hk => hk.2))); (case aS => exact (below_size (by repeat (first | (with_reducible first | exact HB.out | apply bA | apply bN | apply bD) | exact HB.out)))); (case aL => have := LMc10.out; omega); intro v283 w14 ho hb hg hat; rw [← Ny282.out] at ho; have n0_ := Aside0.mk (Kd.R_over' (by (with_reducible repeat (first | apply Kd.rA | apply Kd.rN | apply Kd.rD)); exact HO_8.out) (Kd.R_typed (by (with_reducible repeat (first | apply Kd.rA | apply Kd.rN | apply Kd.rD)); exact HO_7.out)) (by decide) hg); have n1_ := Aside0.mk (Kd.R_after (ok := (fun _ => True)) (by (with_reducible repeat (first | apply Kd.rA | apply Kd.rN | apply Kd.rD)); exact HO281.out) hg hat); have n2_ := Aside0.mk (hb); have n3_ := Aside0.mk (ho); clear HO_8; clear HO281; clear HB; clear HO_7; have HO_8 := n0_; have HO281 := n1_; have HB := n2_; have HO284 := n3_; clear n0_ n1_ n2_ n3_; clear ho hb hg hat) | ((with_reducible refine gate_dst (N := 36) rfl ?_); refine Kd.R_lit k58 _ 58 ?hg (N := 36) ?hd (xs := ([(⟨5, (⟨(⟨#[]⟩ : ByteArray), 0, false, false, false⟩ : S50)⟩ : S58)] : List (S58))) (inner := [.int .i64 5, .string (⟨#[]⟩ : ByteArray), .int .i64 0, .bool false, .bool false, .bool false]) (ok := fun _ => True) (okp := fun _ => True) ?hr ?hp (fun _ hk => hk) trivial (Below.refl _ _) (Nat.le_refl _) (by simp) ?_; (case hd => rfl); (case hg => rfl); (case hr => first | (go_simp; done) | (go_simp; rfl)); (case hp => exact (Reps.c6 (show Kd.M k58 _ _ _ (⟨5, (⟨(⟨#[]⟩ : ByteArray), 0, false, false, false⟩ : S50)⟩ : S58) [.int .i64 5, .string (⟨#[]⟩ : ByteArray), .int .i64 0, .bool false, .bool false, .bool false] from (k58_mkM _ _ _ (⟨5, (⟨(⟨#[]⟩ : ByteArray), 0, false, false, false⟩ : S50)⟩ : S58) )) (Reps.none _ _))); intro v286 w16 ho17 hb hg_ hnew_; clear hg_ hnew_; (first | rw [← Ny285.out] at ho17 | (simp only [Int.reduceToNat] at ho17; rw [← Ny285.out] at ho17)); have n0_ := Aside0.mk (Kd.R_elder' (by (with_reducible repeat (first | apply Kd.rA | apply Kd.rN | apply Kd.rD)); exact HO_8.out) (Kd.R_base ho17) hb); have n1_ := Aside0.mk (Kd.R_below (by (with_reducible repeat (first | apply Kd.rA | apply Kd.rN | apply Kd.rD)); exact HO281.out) hb); have n2_ := Aside0.mk (Kd.R_below (by (with_reducible repeat (first | apply Kd.rA | apply Kd.rN | apply Kd.rD)); exact HO284.out) hb); have n3_ := Aside0.mk (Kd.R_lower (Kd.R_new' ho17 (Kd.R_lt (by (with_reducible repeat (first | apply Kd.rA | apply Kd.rN | apply Kd.rD)); exact HO_8.out))) (below_size (by repeat (first | (with_reducible first | exact HB.out | apply bA | apply bN | apply bD) | exact HB.out)))); have n4_ := Aside0.mk (below_step (by repeat (first | (with_reducible first | exact HB.out | apply bA | apply bN | apply bD) | exact HB.out)) hb); clear HO_8; clear HO281; clear HO284; clear HB; have HO_8 := n0_; have HO281 := n1_; have HO284 := n2_; have HO287 := n3_; have HB := n4_; clear n0_ n1_ n2_ n3_ n4_; clear hb ho17; obtain ⟨Ao19, co19, eo19⟩ := Kd.R_slice HO287.out; subst eo19) | ((with_reducible refine gate_builtin (b := .append) (xs := #[.tmp 34, .tmp 36]) rfl ?_); at_builtin; refine Kd.R_append_rows k58 (w0 := w) w.heap.size rfl (.tmp 34) (.tmp 36) 31 58 (.agg #[(.int .i64 0), (.string ⟨#[]⟩), (.int .i64 0), (.bool false), (.bool false), (.bool false)]) 40 rfl Try.underlying31 info58 rfl (by decide) (by omega) u8 x8_1 y285 _ _ _ (fun k_ => some k_ ≠ (.slice Ao19 y285.length co19 : Value).ownBlock) (fun _ => False) rfl rfl ?aO ?aR (fun _ _ h => h) (fun _ h => h.elim) ?aF ?aB ?aS ?aL ?_; (case aR => repeat (first | exact (Kd.R_reads' HO287.out).2.2 | (with_reducible apply Kd.C_alloc) | (with_reducible apply Kd.C_drewN) | (with_reducible apply Kd.C_drew))); (case aB => exact (by repeat (first | (with_reducible first | exact HB.out | apply bA | apply bN | apply bD) | exact HB.out))); (case aF => exact (fun k_ hk => Kd.fresh' (Kd.R_lt (by (with_reducible repeat (first | apply Kd.rA | apply Kd.rN | apply Kd.rD)); exact HO287.out)) k_ hk)); (case aO => exact (by (with_reducible repeat (first | apply Kd.rA | apply Kd.rN | apply Kd.rD)); exact Kd.R_mono HO_8.out (fun _ hk => hk.2))); (case aS => exact (below_size (by repeat (first | (with_reducible first | exact HB.out | apply bA | apply bN | apply bD) | exact HB.out)))); (case aL => have := LMc11.out; omega); intro v289 w18 ho hb hg hat; rw [← Ny288.out] at ho; have n0_ := Aside0.mk (Kd.R_over' (by (with_reducible repeat (first | apply Kd.rA | apply Kd.rN | apply Kd.rD)); exact HO281.out) (Kd.R_typed (by (with_reducible repeat (first | apply Kd.rA | apply Kd.rN | apply Kd.rD)); exact HO_8.out)) (by decide) hg); have n1_ := Aside0.mk (Kd.R_over' (by (with_reducible repeat (first | apply Kd.rA | apply Kd.rN | apply Kd.rD)); exact HO284.out) (Kd.R_typed (by (with_reducible repeat (first | apply Kd.rA | apply Kd.rN | apply Kd.rD)); exact HO_8.out)) (by decide) hg); have n2_ := Aside0.mk (Kd.R_after (ok := (fun _ => True)) (by (with_reducible repeat (first | apply Kd.rA | apply Kd.rN | apply Kd.rD)); exact HO287.out) hg hat); have n3_ := Aside0.mk (hb); have n4_ := Aside0.mk (ho); clear HO281; clear HO284; clear HO287; clear HB; clear HO_8; have HO281 := n0_; have HO284 := n1_; have HO287 := n2_; have HB := n3_; have HO290 := n4_; clear n0_ n1_ n2_ n3_ n4_; clear ho hb hg hat))
    go_roundg k1
    case measure => have := HK1.out; omega
    case rel => exact ⟨(y282), (y288), (x9_1), (wrap64 (x10_1 + 1)), (by first | rfl | (simp; done) | (simp [*]; done)), (by first | rfl | (simp; done) | (simp [*]; done)), H', ⟨by have := HK1.out; omega⟩, ⟨by (with_reducible repeat (first | apply Kd.rA | apply Kd.rN | apply Kd.rD)); exact Kd.R_mono HO284.out (fun _ hk => trivial)⟩, ⟨by (with_reducible repeat (first | apply Kd.rA | apply Kd.rN | apply Kd.rD)); exact Kd.R_mono HO290.out (fun _ hk => trivial)⟩, ⟨by repeat (first | (with_reducible first | exact HB.out | apply bA | apply bN | apply bD) | exact HB.out)⟩⟩
   rw [if_neg c9] at H
   have c9b0 : (((rd_T58 l1 x10_1).f0) == 4) = false := beq_eq_false_iff_ne.mpr c9
   have c9b1 : (((rd_T58 l1 x10_1).f0) != 4) = true := bne_iff_ne.mpr c9
   by_cases c20 : x9_1 = (l0.length : Int)
   ·rw [if_pos c20] at H
    have c20b0 : (x9_1 == (l0.length : Int)) = true := beq_iff_eq.mpr c20
    have c20b1 : (x9_1 != (l0.length : Int)) = false := bne_eq_false_iff_eq.mpr c20
    clear c20
    simp only [Option.some.injEq, Prod.mk.injEq] at H
    obtain ⟨rfl, rfl, rfl⟩ := H
    have p277 : 0 ≤ (x10_1 : Int) := of_decide_eq_true (by first | (with_reducible assumption) | assumption)
    have q277 : x10_1 < (l1.length : Int) := of_decide_eq_true (by first | (with_reducible assumption) | assumption)
    obtain ⟨ad277, e277, hx277_0, hx277_1, hx277_2, hx277_3, hx277_4, hx277_5⟩ := at_T58 HR1.out x10_1 p277 q277
    cases e277
    replace hx277_0 := (HB.out.cell (World.block_lt_of_cell? w _ hx277_0)).trans hx277_0
    replace hx277_1 := (HB.out.cell (World.block_lt_of_cell? w _ hx277_1)).trans hx277_1
    replace hx277_2 := (HB.out.cell (World.block_lt_of_cell? w _ hx277_2)).trans hx277_2
    replace hx277_3 := (HB.out.cell (World.block_lt_of_cell? w _ hx277_3)).trans hx277_3
    replace hx277_4 := (HB.out.cell (World.block_lt_of_cell? w _ hx277_4)).trans hx277_4
    replace hx277_5 := (HB.out.cell (World.block_lt_of_cell? w _ hx277_5)).trans hx277_5
    replace p277 := eq_true p277
    replace q277 := eq_true q277
    go_wp2
    go_ret3
    exact ⟨_, _, by first | rfl | (simp [errW_none, errW_some] <;> rfl) | (simp [*, errW_none, errW_some] <;> rfl), by first | exact Kd.R_nil _ _ _ _ _ | exact Kd.N_nil _ _ _ _ _ | exact Kd.V_nil _ _ _ _ _ | exact Kd.Q_nil _ _ _ _ _ | exact Kd.S_nil _ _ _ _ _, by first | exact Kd.R_nil _ _ _ _ _ | exact Kd.N_nil _ _ _ _ _ | exact Kd.V_nil _ _ _ _ _ | exact Kd.Q_nil _ _ _ _ _ | exact Kd.S_nil _ _ _ _ _, by repeat (first | (with_reducible first | exact HB.out | apply bA | apply bN | apply bD) | exact HB.out)⟩
   rw [if_neg c20] at H
   have c20b0 : (x9_1 == (l0.length : Int)) = false := beq_eq_false_iff_ne.mpr c20
   have c20b1 : (x9_1 != (l0.length : Int)) = true := bne_iff_ne.mpr c20
   by_cases c21 : 0 ≤ x9_1
   rotate_left
   ·rw [if_neg c21] at H
    exact absurd H (by simp)
   rw [if_pos c21] at H
   have c21b0 : decide (0 ≤ x9_1) = true := decide_eq_true c21
   clear c21
   by_cases c22 : x9_1 < (l0.length : Int)
   rotate_left
   ·rw [if_neg c22] at H
    exact absurd H (by simp)
   rw [if_pos c22] at H
   have c22b0 : decide (x9_1 < (l0.length : Int)) = true := decide_eq_true c22
   clear c22
   by_cases c23 : ((rd_T58 l1 x10_1).f0) = 1
   ·rw [if_pos c23] at H
    have c23b0 : (((rd_T58 l1 x10_1).f0) == 1) = true := beq_iff_eq.mpr c23
    have c23b1 : (((rd_T58 l1 x10_1).f0) != 1) = false := bne_eq_false_iff_eq.mpr c23
    clear c23
    obtain ⟨y294, hy294⟩ : ∃ y_ : List (S50), y_ = (([(⟨(rd_T50 l0 x9_1).f0, (rd_T50 l0 x9_1).f1, (rd_T50 l0 x9_1).f2, (rd_T50 l0 x9_1).f3, (rd_T50 l0 x9_1).f4⟩ : S50)] : List (S50))) := ⟨_, rfl⟩
    replace H : (if x7_1.length + y294.length < 4398046511104 then ((some (([(⟨1, (⟨(⟨#[]⟩ : ByteArray), 0, false, false, false⟩ : S50)⟩ : S58)] : List (S58)) : List (S58))).bind fun y300 => (if x8_1.length + y300.length < 3518437208883 then (salchowref25_apply.l0 k1 l0 l1 (x7_1 ++ y294) (x8_1 ++ y300) (wrap64 (x9_1 + 1)) (wrap64 (x10_1 + 1))) else (none))) else (none)) = some (r1, r2, r3) := by first | (rw [hy294]; with_reducible exact H) | (have H2_ := (Option.bind_some _ _).symm.trans H; rw [hy294]; with_reducible exact H2_) | (have H2_ := (Option.bind_some _ _).symm.trans H; with_reducible exact H2_) | with_reducible exact H | (rw [hy294]; exact H) | exact H
    have Ny294 := Aside0.mk hy294
    clear hy294
    by_cases c24 : x7_1.length + y294.length < 4398046511104
    rotate_left
    ·rw [if_neg c24] at H
     exact absurd H (by simp)
    rw [if_pos c24] at H
    have LMc24 := Aside0.mk c24
    clear c24
    obtain ⟨y297, hy297⟩ : ∃ y_ : List (S50), y_ = (x7_1 ++ y294) := ⟨_, rfl⟩
    replace H : ((some (([(⟨1, (⟨(⟨#[]⟩ : ByteArray), 0, false, false, false⟩ : S50)⟩ : S58)] : List (S58)) : List (S58))).bind fun y300 => (if x8_1.length + y300.length < 3518437208883 then (salchowref25_apply.l0 k1 l0 l1 y297 (x8_1 ++ y300) (wrap64 (x9_1 + 1)) (wrap64 (x10_1 + 1))) else (none))) = some (r1, r2, r3) := by first | (rw [hy297]; with_reducible exact H) | (have H2_ := (Option.bind_some _ _).symm.trans H; rw [hy297]; with_reducible exact H2_) | (have H2_ := (Option.bind_some _ _).symm.trans H; with_reducible exact H2_) | with_reducible exact H | (rw [hy297]; exact H) | exact H
    have Ny297 := Aside0.mk hy297
    clear hy297
    obtain ⟨y300, hy300⟩ : ∃ y_ : List (S58), y_ = (([(⟨1, (⟨(⟨#[]⟩ : ByteArray), 0, false, false, false⟩ : S50)⟩ : S58)] : List (S58))) := ⟨_, rfl⟩
    replace H : (if x8_1.length + y300.length < 3518437208883 then (salchowref25_apply.l0 k1 l0 l1 y297 (x8_1 ++ y300) (wrap64 (x9_1 + 1)) (wrap64 (x10_1 + 1))) else (none)) = some (r1, r2, r3) := by first | (rw [hy300]; with_reducible exact H) | (have H2_ := (Option.bind_some _ _).symm.trans H; rw [hy300]; with_reducible exact H2_) | (have H2_ := (Option.bind_some _ _).symm.trans H; with_reducible exact H2_) | with_reducible exact H | (rw [hy300]; exact H) | exact H
    have Ny300 := Aside0.mk hy300
    clear hy300
    by_cases c25 : x8_1.length + y300.length < 3518437208883
    rotate_left
    ·rw [if_neg c25] at H
     exact absurd H (by simp)
    rw [if_pos c25] at H
    have LMc25 := Aside0.mk c25
    clear c25
    obtain ⟨y303, hy303⟩ : ∃ y_ : List (S58), y_ = (x8_1 ++ y300) := ⟨_, rfl⟩
    replace H : (salchowref25_apply.l0 k1 l0 l1 y297 y303 (wrap64 (x9_1 + 1)) (wrap64 (x10_1 + 1))) = some (r1, r2, r3) := by first | (rw [hy303]; with_reducible exact H) | (have H2_ := (Option.bind_some _ _).symm.trans H; rw [hy303]; with_reducible exact H2_) | (have H2_ := (Option.bind_some _ _).symm.trans H; with_reducible exact H2_) | with_reducible exact H | (rw [hy303]; exact H) | exact H
    have Ny303 := Aside0.mk hy303
    clear hy303
    have H' := Aside0.mk H
    clear H
    have p277 : 0 ≤ (x10_1 : Int) := of_decide_eq_true (by first | (with_reducible assumption) | assumption)
    have q277 : x10_1 < (l1.length : Int) := of_decide_eq_true (by first | (with_reducible assumption) | assumption)
    obtain ⟨ad277, e277, hx277_0, hx277_1, hx277_2, hx277_3, hx277_4, hx277_5⟩ := at_T58 HR1.out x10_1 p277 q277
    cases e277
    replace hx277_0 := (HB.out.cell (World.block_lt_of_cell? w _ hx277_0)).trans hx277_0
    replace hx277_1 := (HB.out.cell (World.block_lt_of_cell? w _ hx277_1)).trans hx277_1
    replace hx277_2 := (HB.out.cell (World.block_lt_of_cell? w _ hx277_2)).trans hx277_2
    replace hx277_3 := (HB.out.cell (World.block_lt_of_cell? w _ hx277_3)).trans hx277_3
    replace hx277_4 := (HB.out.cell (World.block_lt_of_cell? w _ hx277_4)).trans hx277_4
    replace hx277_5 := (HB.out.cell (World.block_lt_of_cell? w _ hx277_5)).trans hx277_5
    replace p277 := eq_true p277
    replace q277 := eq_true q277
    have p291 : 0 ≤ (x9_1 : Int) := of_decide_eq_true (by first | (with_reducible assumption) | assumption)
    have q291 : x9_1 < (l0.length : Int) := of_decide_eq_true (by first | (with_reducible assumption) | assumption)
    obtain ⟨ad291, e291, hx291_0, hx291_1, hx291_2, hx291_3, hx291_4⟩ := at_T50 HR0.out x9_1 p291 q291
    cases e291
    replace hx291_0 := (HB.out.cell (World.block_lt_of_cell? w _ hx291_0)).trans hx291_0
    replace hx291_1 := (HB.out.cell (World.block_lt_of_cell? w _ hx291_1)).trans hx291_1
    replace hx291_2 := (HB.out.cell (World.block_lt_of_cell? w _ hx291_2)).trans hx291_2
    replace hx291_3 := (HB.out.cell (World.block_lt_of_cell? w _ hx291_3)).trans hx291_3
    replace hx291_4 := (HB.out.cell (World.block_lt_of_cell? w _ hx291_4)).trans hx291_4
    replace p291 := eq_true p291
    replace q291 := eq_true q291
    go_wp2_with (first | ((with_reducible refine gate_dst (N := 11) rfl ?_); refine box_event ?hg (N := 11) ?hd (cs := #[.string (⟨#[]⟩ : ByteArray), .int .i64 0, .bool false, .bool false, .bool false]) (t := 50) ?hr ?_; (case hd => rfl); (case hg => rfl); (case hr => first | (go_simp; done) | (go_simp; rfl)); intro gb292 hg w26 hbox hb; have n0_ := Aside0.mk (Kd.R_below (Kd.R_elderB (by (with_reducible repeat (first | apply Kd.rA | apply Kd.rN | apply Kd.rD)); exact HO_7.out) gb292 (Nat.le_of_eq hg.symm)) hb); have n1_ := Aside0.mk (Kd.R_below (by (with_reducible repeat (first | apply Kd.rA | apply Kd.rN | apply Kd.rD)); exact HO_8.out) hb); have n2_ := Aside0.mk (below_step (by repeat (first | (with_reducible first | exact HB.out | apply bA | apply bN | apply bD) | exact HB.out)) hb); have n3_ := Aside0.mk (hbox); have n4_ := Aside0.mk ((by rw [hg]; exact (below_size (by repeat (first | (with_reducible first | exact HB.out | apply bA | apply bN | apply bD) | exact HB.out))) : w.heap.size ≤ gb292)); have n5_ := Aside0.mk ((by rw [hg]; exact (below_size (by repeat (first | (with_reducible first | exact HB.out | apply bA | apply bN | apply bD) | exact HB.out))) : w.heap.size ≤ gb292)); clear HO_7; clear HO_8; clear HB; have HO_7 := n0_; have HO_8 := n1_; have HB := n2_; have BK292 := n3_; have GW292 := n4_; have GE292 := n5_; clear n0_ n1_ n2_ n3_ n4_ n5_; clear hb hbox hg; have hcz27_0 : w26.cell? ⟨gb292, 0, none⟩ = some (.string (⟨#[]⟩ : ByteArray)) := (blk_cell BK292.out 0).trans rfl; have hcz27_1 : w26.cell? ⟨gb292, 1, none⟩ = some (.int .i64 0) := (blk_cell BK292.out 1).trans rfl; have hcz27_2 : w26.cell? ⟨gb292, 2, none⟩ = some (.bool false) := (blk_cell BK292.out 2).trans rfl; have hcz27_3 : w26.cell? ⟨gb292, 3, none⟩ = some (.bool false) := (blk_cell BK292.out 3).trans rfl; have hcz27_4 : w26.cell? ⟨gb292, 4, none⟩ = some (.bool false) := (blk_cell BK292.out 4).trans rfl; have hfz27_0 := blk_frozen BK292.out 0; have hfz27_1 := blk_frozen BK292.out 1; have hfz27_2 := blk_frozen BK292.out 2; have hfz27_3 := blk_frozen BK292.out 3; have hfz27_4 := blk_frozen BK292.out 4; have p293 : 0 ≤ (x10_1 : Int) := of_decide_eq_true (by first | (with_reducible assumption) | assumption); have q293 : x10_1 < (l1.length : Int) := of_decide_eq_true (by first | (with_reducible assumption) | assumption); obtain ⟨ad293, e293, hx293_0, hx293_1, hx293_2, hx293_3, hx293_4, hx293_5⟩ := at_T58 HR1.out x10_1 p293 q293; obtain rfl : ad277 = ad293 := (by injection e293); have hn293_0 : ad277.block ≠ gb292 := Nat.ne_of_lt (Nat.lt_of_lt_of_le (by have := World.block_lt_of_cell? _ _ hx293_0; first | rwa [add_block] at this | exact this) GW292.out); have hn293_1 : ad277.block ≠ gb292 := Nat.ne_of_lt (Nat.lt_of_lt_of_le (by have := World.block_lt_of_cell? _ _ hx293_0; first | rwa [add_block] at this | exact this) GW292.out); have hn293_2 : ad277.block ≠ gb292 := Nat.ne_of_lt (Nat.lt_of_lt_of_le (by have := World.block_lt_of_cell? _ _ hx293_0; first | rwa [add_block] at this | exact this) GW292.out); have hn293_3 : ad277.block ≠ gb292 := Nat.ne_of_lt (Nat.lt_of_lt_of_le (by have := World.block_lt_of_cell? _ _ hx293_0; first | rwa [add_block] at this | exact this) GW292.out); have hn293_4 : ad277.block ≠ gb292 := Nat.ne_of_lt (Nat.lt_of_lt_of_le (by have := World.block_lt_of_cell? _ _ hx293_0; first | rwa [add_block] at this | exact this) GW292.out); replace hx293_0 := (HB.out.cell (World.block_lt_of_cell? w _ hx293_0)).trans hx293_0; replace hx293_1 := (HB.out.cell (World.block_lt_of_cell? w _ hx293_1)).trans hx293_1; replace hx293_2 := (HB.out.cell (World.block_lt_of_cell? w _ hx293_2)).trans hx293_2; replace hx293_3 := (HB.out.cell (World.block_lt_of_cell? w _ hx293_3)).trans hx293_3; replace hx293_4 := (HB.out.cell (World.block_lt_of_cell? w _ hx293_4)).trans hx293_4; replace hx293_5 := (HB.out.cell (World.block_lt_of_cell? w _ hx293_5)).trans hx293_5; replace hx293_0 := (cell_far (p := ⟨gb292, 0, none⟩) (by first | (rw [add_block]; exact hn293_0) | (show (Addr.add _ _).block ≠ _; rw [add_block]; exact hn293_0) | exact hn293_0) (.string ((rd_T50 l0 x9_1).f0))).trans hx293_0; replace hx293_1 := (cell_far (p := ⟨gb292, 0, none⟩) (by first | (rw [add_block]; exact hn293_0) | (show (Addr.add _ _).block ≠ _; rw [add_block]; exact hn293_0) | exact hn293_0) (.string ((rd_T50 l0 x9_1).f0))).trans hx293_1; replace hx293_2 := (cell_far (p := ⟨gb292, 0, none⟩) (by first | (rw [add_block]; exact hn293_0) | (show (Addr.add _ _).block ≠ _; rw [add_block]; exact hn293_0) | exact hn293_0) (.string ((rd_T50 l0 x9_1).f0))).trans hx293_2; replace hx293_3 := (cell_far (p := ⟨gb292, 0, none⟩) (by first | (rw [add_block]; exact hn293_0) | (show (Addr.add _ _).block ≠ _; rw [add_block]; exact hn293_0) | exact hn293_0) (.string ((rd_T50 l0 x9_1).f0))).trans hx293_3; replace hx293_4 := (cell_far (p := ⟨gb292, 0, none⟩) (by first | (rw [add_block]; exact hn293_0) | (show (Addr.add _ _).block ≠ _; rw [add_block]; exact hn293_0) | exact hn293_0) (.string ((rd_T50 l0 x9_1).f0))).trans hx293_4; replace hx293_5 := (cell_far (p := ⟨gb292, 0, none⟩) (by first | (rw [add_block]; exact hn293_0) | (show (Addr.add _ _).block ≠ _; rw [add_block]; exact hn293_0) | exact hn293_0) (.string ((rd_T50 l0 x9_1).f0))).trans hx293_5; replace hx293_0 := (cell_far (p := ⟨gb292, 1, none⟩) (by first | (rw [add_block]; exact hn293_1) | (show (Addr.add _ _).block ≠ _; rw [add_block]; exact hn293_1) | exact hn293_1) (.int .i64 ((rd_T50 l0 x9_1).f1))).trans hx293_0; replace hx293_1 := (cell_far (p := ⟨gb292, 1, none⟩) (by first | (rw [add_block]; exact hn293_1) | (show (Addr.add _ _).block ≠ _; rw [add_block]; exact hn293_1) | exact hn293_1) (.int .i64 ((rd_T50 l0 x9_1).f1))).trans hx293_1; replace hx293_2 := (cell_far (p := ⟨gb292, 1, none⟩) (by first | (rw [add_block]; exact hn293_1) | (show (Addr.add _ _).block ≠ _; rw [add_block]; exact hn293_1) | exact hn293_1) (.int .i64 ((rd_T50 l0 x9_1).f1))).trans hx293_2; replace hx293_3 := (cell_far (p := ⟨gb292, 1, none⟩) (by first | (rw [add_block]; exact hn293_1) | (show (Addr.add _ _).block ≠ _; rw [add_block]; exact hn293_1) | exact hn293_1) (.int .i64 ((rd_T50 l0 x9_1).f1))).trans hx293_3; replace hx293_4 := (cell_far (p := ⟨gb292, 1, none⟩) (by first | (rw [add_block]; exact hn293_1) | (show (Addr.add _ _).block ≠ _; rw [add_block]; exact hn293_1) | exact hn293_1) (.int .i64 ((rd_T50 l0 x9_1).f1))).trans hx293_4; replace hx293_5 := (cell_far (p := ⟨gb292, 1, none⟩) (by first | (rw [add_block]; exact hn293_1) | (show (Addr.add _ _).block ≠ _; rw [add_block]; exact hn293_1) | exact hn293_1) (.int .i64 ((rd_T50 l0 x9_1).f1))).trans hx293_5; replace hx293_0 := (cell_far (p := ⟨gb292, 2, none⟩) (by first | (rw [add_block]; exact hn293_2) | (show (Addr.add _ _).block ≠ _; rw [add_block]; exact hn293_2) | exact hn293_2) (.bool ((rd_T50 l0 x9_1).f2))).trans hx293_0; replace hx293_1 := (cell_far (p := ⟨gb292, 2, none⟩) (by first | (rw [add_block]; exact hn293_2) | (show (Addr.add _ _).block ≠ _; rw [add_block]; exact hn293_2) | exact hn293_2) (.bool ((rd_T50 l0 x9_1).f2))).trans hx293_1; replace hx293_2 := (cell_far (p := ⟨gb292, 2, none⟩) (by first | (rw [add_block]; exact hn293_2) | (show (Addr.add _ _).block ≠ _; rw [add_block]; exact hn293_2) | exact hn293_2) (.bool ((rd_T50 l0 x9_1).f2))).trans hx293_2; replace hx293_3 := (cell_far (p := ⟨gb292, 2, none⟩) (by first | (rw [add_block]; exact hn293_2) | (show (Addr.add _ _).block ≠ _; rw [add_block]; exact hn293_2) | exact hn293_2) (.bool ((rd_T50 l0 x9_1).f2))).trans hx293_3; replace hx293_4 := (cell_far (p := ⟨gb292, 2, none⟩) (by first | (rw [add_block]; exact hn293_2) | (show (Addr.add _ _).block ≠ _; rw [add_block]; exact hn293_2) | exact hn293_2) (.bool ((rd_T50 l0 x9_1).f2))).trans hx293_4; replace hx293_5 := (cell_far (p := ⟨gb292, 2, none⟩) (by first | (rw [add_block]; exact hn293_2) | (show (Addr.add _ _).block ≠ _; rw [add_block]; exact hn293_2) | exact hn293_2) (.bool ((rd_T50 l0 x9_1).f2))).trans hx293_5; replace hx293_0 := (cell_far (p := ⟨gb292, 3, none⟩) (by first | (rw [add_block]; exact hn293_3) | (show (Addr.add _ _).block ≠ _; rw [add_block]; exact hn293_3) | exact hn293_3) (.bool ((rd_T50 l0 x9_1).f3))).trans hx293_0; replace hx293_1 := (cell_far (p := ⟨gb292, 3, none⟩) (by first | (rw [add_block]; exact hn293_3) | (show (Addr.add _ _).block ≠ _; rw [add_block]; exact hn293_3) | exact hn293_3) (.bool ((rd_T50 l0 x9_1).f3))).trans hx293_1; replace hx293_2 := (cell_far (p := ⟨gb292, 3, none⟩) (by first | (rw [add_block]; exact hn293_3) | (show (Addr.add _ _).block ≠ _; rw [add_block]; exact hn293_3) | exact hn293_3) (.bool ((rd_T50 l0 x9_1).f3))).trans hx293_2; replace hx293_3 := (cell_far (p := ⟨gb292, 3, none⟩) (by first | (rw [add_block]; exact hn293_3) | (show (Addr.add _ _).block ≠ _; rw [add_block]; exact hn293_3) | exact hn293_3) (.bool ((rd_T50 l0 x9_1).f3))).trans hx293_3; replace hx293_4 := (cell_far (p := ⟨gb292, 3, none⟩) (by first | (rw [add_block]; exact hn293_3) | (show (Addr.add _ _).block ≠ _; rw [add_block]; exact hn293_3) | exact hn293_3) (.bool ((rd_T50 l0 x9_1).f3))).trans hx293_4; replace hx293_5 := (cell_far (p := ⟨gb292, 3, none⟩) (by first | (rw [add_block]; exact hn293_3) | (show (Addr.add _ _).block ≠ _; rw [add_block]; exact hn293_3) | exact hn293_3) (.bool ((rd_T50 l0 x9_1).f3))).trans hx293_5; replace hx293_0 := (cell_far (p := ⟨gb292, 4, none⟩) (by first | (rw [add_block]; exact hn293_4) | (show (Addr.add _ _).block ≠ _; rw [add_block]; exact hn293_4) | exact hn293_4) (.bool ((rd_T50 l0 x9_1).f4))).trans hx293_0; replace hx293_1 := (cell_far (p := ⟨gb292, 4, none⟩) (by first | (rw [add_block]; exact hn293_4) | (show (Addr.add _ _).block ≠ _; rw [add_block]; exact hn293_4) | exact hn293_4) (.bool ((rd_T50 l0 x9_1).f4))).trans hx293_1; replace hx293_2 := (cell_far (p := ⟨gb292, 4, none⟩) (by first | (rw [add_block]; exact hn293_4) | (show (Addr.add _ _).block ≠ _; rw [add_block]; exact hn293_4) | exact hn293_4) (.bool ((rd_T50 l0 x9_1).f4))).trans hx293_2; replace hx293_3 := (cell_far (p := ⟨gb292, 4, none⟩) (by first | (rw [add_block]; exact hn293_4) | (show (Addr.add _ _).block ≠ _; rw [add_block]; exact hn293_4) | exact hn293_4) (.bool ((rd_T50 l0 x9_1).f4))).trans hx293_3; replace hx293_4 := (cell_far (p := ⟨gb292, 4, none⟩) (by first | (rw [add_block]; exact hn293_4) | (show (Addr.add _ _).block ≠ _; rw [add_block]; exact hn293_4) | exact hn293_4) (.bool ((rd_T50 l0 x9_1).f4))).trans hx293_4; replace hx293_5 := (cell_far (p := ⟨gb292, 4, none⟩) (by first | (rw [add_block]; exact hn293_4) | (show (Addr.add _ _).block ≠ _; rw [add_block]; exact hn293_4) | exact hn293_4) (.bool ((rd_T50 l0 x9_1).f4))).trans hx293_5; clear hn293_0; clear hn293_1; clear hn293_2; clear hn293_3; clear hn293_4; replace p293 := eq_true p293; replace q293 := eq_true q293) | ((with_reducible refine gate_dst (N := 88) rfl ?_); refine Kd.R_lit k50 _ 50 ?hg (N := 88) ?hd (xs := ([(⟨(rd_T50 l0 x9_1).f0, (rd_T50 l0 x9_1).f1, (rd_T50 l0 x9_1).f2, (rd_T50 l0 x9_1).f3, (rd_T50 l0 x9_1).f4⟩ : S50)] : List (S50))) (inner := [.string ((rd_T50 l0 x9_1).f0), .int .i64 ((rd_T50 l0 x9_1).f1), .bool ((rd_T50 l0 x9_1).f2), .bool ((rd_T50 l0 x9_1).f3), .bool ((rd_T50 l0 x9_1).f4)]) (ok := fun _ => True) (okp := fun _ => True) ?hr ?hp (fun _ hk => hk) trivial (Below.refl _ _) (Nat.le_refl _) (by simp) ?_; (case hd => rfl); (case hg => rfl); (case hr => first | (go_simp; done) | (go_simp; rfl)); (case hp => exact (Reps.c5 (show Kd.M k50 _ _ _ (⟨(rd_T50 l0 x9_1).f0, (rd_T50 l0 x9_1).f1, (rd_T50 l0 x9_1).f2, (rd_T50 l0 x9_1).f3, (rd_T50 l0 x9_1).f4⟩ : S50) [.string ((rd_T50 l0 x9_1).f0), .int .i64 ((rd_T50 l0 x9_1).f1), .bool ((rd_T50 l0 x9_1).f2), .bool ((rd_T50 l0 x9_1).f3), .bool ((rd_T50 l0 x9_1).f4)] from (k50_mkM _ _ _ (⟨(rd_T50 l0 x9_1).f0, (rd_T50 l0 x9_1).f1, (rd_T50 l0 x9_1).f2, (rd_T50 l0 x9_1).f3, (rd_T50 l0 x9_1).f4⟩ : S50) )) (Reps.none _ _))); intro v295 w28 ho29 hb hg_ hnew_; clear hg_ hnew_; (first | rw [← Ny294.out] at ho29 | (simp only [Int.reduceToNat] at ho29; rw [← Ny294.out] at ho29)); have n0_ := Aside0.mk (Kd.R_elder' (by (with_reducible repeat (first | apply Kd.rA | apply Kd.rN | apply Kd.rD)); exact (Kd.R_mono (Kd.R_far (p := ⟨gb292, 4, none⟩) (Kd.R_far (p := ⟨gb292, 3, none⟩) (Kd.R_far (p := ⟨gb292, 2, none⟩) (Kd.R_far (p := ⟨gb292, 1, none⟩) (Kd.R_far (p := ⟨gb292, 0, none⟩) (Kd.R_mono HO_7.out (fun k_ hk => (⟨hk, hk.2⟩ : _ ∧ k_ ≠ gb292))) (fun _ hk => hk.2) (.string ((rd_T50 l0 x9_1).f0))) (fun _ hk => hk.2) (.int .i64 ((rd_T50 l0 x9_1).f1))) (fun _ hk => hk.2) (.bool ((rd_T50 l0 x9_1).f2))) (fun _ hk => hk.2) (.bool ((rd_T50 l0 x9_1).f3))) (fun _ hk => hk.2) (.bool ((rd_T50 l0 x9_1).f4))) (fun _ h_ => h_.1))) (Kd.R_base ho29) hb); have n1_ := Aside0.mk (Kd.R_below (by (with_reducible repeat (first | apply Kd.rA | apply Kd.rN | apply Kd.rD)); exact (Kd.R_mono (Kd.R_far (p := ⟨gb292, 4, none⟩) (Kd.R_far (p := ⟨gb292, 3, none⟩) (Kd.R_far (p := ⟨gb292, 2, none⟩) (Kd.R_far (p := ⟨gb292, 1, none⟩) (Kd.R_far (p := ⟨gb292, 0, none⟩) (Kd.R_types HO_8.out BK292.out (by decide)) (fun _ hk => hk.2) (.string ((rd_T50 l0 x9_1).f0))) (fun _ hk => hk.2) (.int .i64 ((rd_T50 l0 x9_1).f1))) (fun _ hk => hk.2) (.bool ((rd_T50 l0 x9_1).f2))) (fun _ hk => hk.2) (.bool ((rd_T50 l0 x9_1).f3))) (fun _ hk => hk.2) (.bool ((rd_T50 l0 x9_1).f4))) (fun _ h_ => h_.1))) hb); have n2_ := Aside0.mk (Kd.R_lower (Kd.R_newB (Kd.R_new' ho29 (Kd.R_lt (by (with_reducible repeat (first | apply Kd.rA | apply Kd.rN | apply Kd.rD)); exact (Kd.R_mono (Kd.R_far (p := ⟨gb292, 4, none⟩) (Kd.R_far (p := ⟨gb292, 3, none⟩) (Kd.R_far (p := ⟨gb292, 2, none⟩) (Kd.R_far (p := ⟨gb292, 1, none⟩) (Kd.R_far (p := ⟨gb292, 0, none⟩) (Kd.R_mono HO_7.out (fun k_ hk => (⟨hk, hk.2⟩ : _ ∧ k_ ≠ gb292))) (fun _ hk => hk.2) (.string ((rd_T50 l0 x9_1).f0))) (fun _ hk => hk.2) (.int .i64 ((rd_T50 l0 x9_1).f1))) (fun _ hk => hk.2) (.bool ((rd_T50 l0 x9_1).f2))) (fun _ hk => hk.2) (.bool ((rd_T50 l0 x9_1).f3))) (fun _ hk => hk.2) (.bool ((rd_T50 l0 x9_1).f4))) (fun _ h_ => h_.1))))) (g := gb292) (o := .cells #[.string ((rd_T50 l0 x9_1).f0), .int .i64 ((rd_T50 l0 x9_1).f1), .bool ((rd_T50 l0 x9_1).f2), .bool ((rd_T50 l0 x9_1).f3), .bool ((rd_T50 l0 x9_1).f4)] 50 (0, 0)) (by (with_reducible repeat (first | refine blk_drewN ?_ _ | refine blk_drew ?_ | refine blk_alloc ?_ _)); refine blk_put (cs := #[.string ((rd_T50 l0 x9_1).f0), .int .i64 ((rd_T50 l0 x9_1).f1), .bool ((rd_T50 l0 x9_1).f2), .bool ((rd_T50 l0 x9_1).f3), .bool false]) ?_ 4 _ rfl; (with_reducible repeat (first | refine blk_drewN ?_ _ | refine blk_drew ?_ | refine blk_alloc ?_ _)); refine blk_put (cs := #[.string ((rd_T50 l0 x9_1).f0), .int .i64 ((rd_T50 l0 x9_1).f1), .bool ((rd_T50 l0 x9_1).f2), .bool false, .bool false]) ?_ 3 _ rfl; (with_reducible repeat (first | refine blk_drewN ?_ _ | refine blk_drew ?_ | refine blk_alloc ?_ _)); refine blk_put (cs := #[.string ((rd_T50 l0 x9_1).f0), .int .i64 ((rd_T50 l0 x9_1).f1), .bool false, .bool false, .bool false]) ?_ 2 _ rfl; (with_reducible repeat (first | refine blk_drewN ?_ _ | refine blk_drew ?_ | refine blk_alloc ?_ _)); refine blk_put (cs := #[.string ((rd_T50 l0 x9_1).f0), .int .i64 0, .bool false, .bool false, .bool false]) ?_ 1 _ rfl; (with_reducible repeat (first | refine blk_drewN ?_ _ | refine blk_drew ?_ | refine blk_alloc ?_ _)); refine blk_put (cs := #[.string (⟨#[]⟩ : ByteArray), .int .i64 0, .bool false, .bool false, .bool false]) ?_ 0 _ rfl; (with_reducible repeat (first | refine blk_drewN ?_ _ | refine blk_drew ?_ | refine blk_alloc ?_ _)); exact BK292.out)) (below_size (by repeat (first | (with_reducible first | exact HB.out | apply bA | apply bN | apply bD | refine below_set ?_ GE292.out) | exact HB.out)))); have n3_ := Aside0.mk (blk_below (g := gb292) (o := .cells #[.string ((rd_T50 l0 x9_1).f0), .int .i64 ((rd_T50 l0 x9_1).f1), .bool ((rd_T50 l0 x9_1).f2), .bool ((rd_T50 l0 x9_1).f3), .bool ((rd_T50 l0 x9_1).f4)] 50 (0, 0)) (by (with_reducible repeat (first | refine blk_drewN ?_ _ | refine blk_drew ?_ | refine blk_alloc ?_ _)); refine blk_put (cs := #[.string ((rd_T50 l0 x9_1).f0), .int .i64 ((rd_T50 l0 x9_1).f1), .bool ((rd_T50 l0 x9_1).f2), .bool ((rd_T50 l0 x9_1).f3), .bool false]) ?_ 4 _ rfl; (with_reducible repeat (first | refine blk_drewN ?_ _ | refine blk_drew ?_ | refine blk_alloc ?_ _)); refine blk_put (cs := #[.string ((rd_T50 l0 x9_1).f0), .int .i64 ((rd_T50 l0 x9_1).f1), .bool ((rd_T50 l0 x9_1).f2), .bool false, .bool false]) ?_ 3 _ rfl; (with_reducible repeat (first | refine blk_drewN ?_ _ | refine blk_drew ?_ | refine blk_alloc ?_ _)); refine blk_put (cs := #[.string ((rd_T50 l0 x9_1).f0), .int .i64 ((rd_T50 l0 x9_1).f1), .bool false, .bool false, .bool false]) ?_ 2 _ rfl; (with_reducible repeat (first | refine blk_drewN ?_ _ | refine blk_drew ?_ | refine blk_alloc ?_ _)); refine blk_put (cs := #[.string ((rd_T50 l0 x9_1).f0), .int .i64 0, .bool false, .bool false, .bool false]) ?_ 1 _ rfl; (with_reducible repeat (first | refine blk_drewN ?_ _ | refine blk_drew ?_ | refine blk_alloc ?_ _)); refine blk_put (cs := #[.string (⟨#[]⟩ : ByteArray), .int .i64 0, .bool false, .bool false, .bool false]) ?_ 0 _ rfl; (with_reducible repeat (first | refine blk_drewN ?_ _ | refine blk_drew ?_ | refine blk_alloc ?_ _)); exact BK292.out) hb); have n4_ := Aside0.mk (below_step (by repeat (first | (with_reducible first | exact HB.out | apply bA | apply bN | apply bD | refine below_set ?_ GE292.out) | exact HB.out)) hb); clear HO_7; clear HO_8; clear BK292; clear HB; have HO_7 := n0_; have HO_8 := n1_; have HO296 := n2_; have BK292 := n3_; have HB := n4_; clear n0_ n1_ n2_ n3_ n4_; clear hb ho29; obtain ⟨Ao31, co31, eo31⟩ := Kd.R_slice HO296.out; subst eo31) | ((with_reducible refine gate_builtin (b := .append) (xs := #[.tmp 86, .tmp 88]) rfl ?_); at_builtin; refine Kd.R_append_rows k50 (w0 := w) w.heap.size rfl (.tmp 86) (.tmp 88) 22 50 (.agg #[(.string ⟨#[]⟩), (.int .i64 0), (.bool false), (.bool false), (.bool false)]) 32 rfl Try.underlying22 info50 rfl (by decide) (by omega) u7 x7_1 y294 _ _ _ (fun k_ => some k_ ≠ (.slice Ao31 y294.length co31 : Value).ownBlock ∧ k_ ≠ gb292) (fun _ => False) rfl rfl ?aO ?aR (fun _ _ h => h) (fun _ h => h.elim) ?aF ?aB ?aS ?aL ?_; (case aR => repeat (first | exact (Kd.R_reads' HO296.out).2.2 | (with_reducible apply Kd.C_alloc) | (with_reducible apply Kd.C_drewN) | (with_reducible apply Kd.C_drew))); (case aB => exact (by repeat (first | (with_reducible first | exact HB.out | apply bA | apply bN | apply bD | refine below_set ?_ GE292.out) | exact HB.out))); (case aF => exact (fun k_ hk => ⟨Kd.fresh' (Kd.R_lt (by (with_reducible repeat (first | apply Kd.rA | apply Kd.rN | apply Kd.rD)); exact HO296.out)) k_ hk, Kd.freshB (g := gb292) (o := .cells #[.string ((rd_T50 l0 x9_1).f0), .int .i64 ((rd_T50 l0 x9_1).f1), .bool ((rd_T50 l0 x9_1).f2), .bool ((rd_T50 l0 x9_1).f3), .bool ((rd_T50 l0 x9_1).f4)] 50 (0, 0)) (by (with_reducible repeat (first | refine blk_drewN ?_ _ | refine blk_drew ?_ | refine blk_alloc ?_ _)); exact BK292.out) k_ hk⟩)); (case aO => exact (by (with_reducible repeat (first | apply Kd.rA | apply Kd.rN | apply Kd.rD)); exact Kd.R_mono HO_7.out (fun _ hk => ⟨hk.2, hk.1.2⟩))); (case aS => exact (below_size (by repeat (first | (with_reducible first | exact HB.out | apply bA | apply bN | apply bD | refine below_set ?_ GE292.out) | exact HB.out)))); (case aL => have := LMc24.out; omega); intro v298 w30 ho hb hg hat; rw [← Ny297.out] at ho; have n0_ := Aside0.mk (Kd.R_over' (by (with_reducible repeat (first | apply Kd.rA | apply Kd.rN | apply Kd.rD)); exact HO_8.out) (Kd.R_typed (by (with_reducible repeat (first | apply Kd.rA | apply Kd.rN | apply Kd.rD)); exact HO_7.out)) (by decide) hg); have n1_ := Aside0.mk (blk_grown (g := gb292) (o := .cells #[.string ((rd_T50 l0 x9_1).f0), .int .i64 ((rd_T50 l0 x9_1).f1), .bool ((rd_T50 l0 x9_1).f2), .bool ((rd_T50 l0 x9_1).f3), .bool ((rd_T50 l0 x9_1).f4)] 50 (0, 0)) (by (with_reducible repeat (first | refine blk_drewN ?_ _ | refine blk_drew ?_ | refine blk_alloc ?_ _)); exact BK292.out) hg (Kd.R_away HO_7.out (fun _ hk => hk.1.2))); have n2_ := Aside0.mk (Kd.R_after (ok := (fun k_ => k_ ≠ gb292)) (by (with_reducible repeat (first | apply Kd.rA | apply Kd.rN | apply Kd.rD)); exact Kd.R_mono HO296.out (fun _ hk => ⟨hk.2, hk.1.2⟩)) hg hat); have n3_ := Aside0.mk (hb); have n4_ := Aside0.mk (ho); clear HO_8; clear BK292; clear HO296; clear HB; clear HO_7; have HO_8 := n0_; have BK292 := n1_; have HO296 := n2_; have HB := n3_; have HO299 := n4_; clear n0_ n1_ n2_ n3_ n4_; clear ho hb hg hat) | ((with_reducible refine gate_dst (N := 92) rfl ?_); refine Kd.R_lit k58 _ 58 ?hg (N := 92) ?hd (xs := ([(⟨1, (⟨(⟨#[]⟩ : ByteArray), 0, false, false, false⟩ : S50)⟩ : S58)] : List (S58))) (inner := [.int .i64 1, .string (⟨#[]⟩ : ByteArray), .int .i64 0, .bool false, .bool false, .bool false]) (ok := fun _ => True) (okp := fun _ => True) ?hr ?hp (fun _ hk => hk) trivial (Below.refl _ _) (Nat.le_refl _) (by simp) ?_; (case hd => rfl); (case hg => rfl); (case hr => first | (go_simp; done) | (go_simp; rfl)); (case hp => exact (Reps.c6 (show Kd.M k58 _ _ _ (⟨1, (⟨(⟨#[]⟩ : ByteArray), 0, false, false, false⟩ : S50)⟩ : S58) [.int .i64 1, .string (⟨#[]⟩ : ByteArray), .int .i64 0, .bool false, .bool false, .bool false] from (k58_mkM _ _ _ (⟨1, (⟨(⟨#[]⟩ : ByteArray), 0, false, false, false⟩ : S50)⟩ : S58) )) (Reps.none _ _))); intro v301 w32 ho33 hb hg_ hnew_; clear hg_ hnew_; (first | rw [← Ny300.out] at ho33 | (simp only [Int.reduceToNat] at ho33; rw [← Ny300.out] at ho33)); have n0_ := Aside0.mk (Kd.R_elder' (by (with_reducible repeat (first | apply Kd.rA | apply Kd.rN | apply Kd.rD)); exact HO_8.out) (Kd.R_base ho33) hb); have n1_ := Aside0.mk (Kd.R_below (by (with_reducible repeat (first | apply Kd.rA | apply Kd.rN | apply Kd.rD)); exact HO296.out) hb); have n2_ := Aside0.mk (Kd.R_below (by (with_reducible repeat (first | apply Kd.rA | apply Kd.rN | apply Kd.rD)); exact HO299.out) hb); have n3_ := Aside0.mk (Kd.R_lower (Kd.R_new' ho33 (Kd.R_lt (by (with_reducible repeat (first | apply Kd.rA | apply Kd.rN | apply Kd.rD)); exact HO_8.out))) (below_size (by repeat (first | (with_reducible first | exact HB.out | apply bA | apply bN | apply bD | refine below_set ?_ GE292.out) | exact HB.out)))); have n4_ := Aside0.mk (blk_below (g := gb292) (o := .cells #[.string ((rd_T50 l0 x9_1).f0), .int .i64 ((rd_T50 l0 x9_1).f1), .bool ((rd_T50 l0 x9_1).f2), .bool ((rd_T50 l0 x9_1).f3), .bool ((rd_T50 l0 x9_1).f4)] 50 (0, 0)) (by (with_reducible repeat (first | refine blk_drewN ?_ _ | refine blk_drew ?_ | refine blk_alloc ?_ _)); exact BK292.out) hb); have n5_ := Aside0.mk (below_step (by repeat (first | (with_reducible first | exact HB.out | apply bA | apply bN | apply bD | refine below_set ?_ GE292.out) | exact HB.out)) hb); clear HO_8; clear HO296; clear HO299; clear BK292; clear HB; have HO_8 := n0_; have HO296 := n1_; have HO299 := n2_; have HO302 := n3_; have BK292 := n4_; have HB := n5_; clear n0_ n1_ n2_ n3_ n4_ n5_; clear hb ho33; obtain ⟨Ao35, co35, eo35⟩ := Kd.R_slice HO302.out; subst eo35) | ((with_reducible refine gate_builtin (b := .append) (xs := #[.tmp 90, .tmp 92]) rfl ?_); at_builtin; refine Kd.R_append_rows k58 (w0 := w) w.heap.size rfl (.tmp 90) (.tmp 92) 31 58 (.agg #[(.int .i64 0), (.string ⟨#[]⟩), (.int .i64 0), (.bool false), (.bool false), (.bool false)]) 40 rfl Try.underlying31 info58 rfl (by decide) (by omega) u8 x8_1 y300 _ _ _ (fun k_ => some k_ ≠ (.slice Ao35 y300.length co35 : Value).ownBlock) (fun _ => False) rfl rfl ?aO ?aR (fun _ _ h => h) (fun _ h => h.elim) ?aF ?aB ?aS ?aL ?_; (case aR => repeat (first | exact (Kd.R_reads' HO302.out).2.2 | (with_reducible apply Kd.C_alloc) | (with_reducible apply Kd.C_drewN) | (with_reducible apply Kd.C_drew))); (case aB => exact (by repeat (first | (with_reducible first | exact HB.out | apply bA | apply bN | apply bD | refine below_set ?_ GE292.out) | exact HB.out))); (case aF => exact (fun k_ hk => Kd.fresh' (Kd.R_lt (by (with_reducible repeat (first | apply Kd.rA | apply Kd.rN | apply Kd.rD)); exact HO302.out)) k_ hk)); (case aO => exact (by (with_reducible repeat (first | apply Kd.rA | apply Kd.rN | apply Kd.rD)); exact Kd.R_mono HO_8.out (fun _ hk => hk.2))); (case aS => exact (below_size (by repeat (first | (with_reducible first | exact HB.out | apply bA | apply bN | apply bD | refine below_set ?_ GE292.out) | exact HB.out)))); (case aL => have := LMc25.out; omega); intro v304 w34 ho hb hg hat; rw [← Ny303.out] at ho; have n0_ := Aside0.mk (blk_grown (g := gb292) (o := .cells #[.string ((rd_T50 l0 x9_1).f0), .int .i64 ((rd_T50 l0 x9_1).f1), .bool ((rd_T50 l0 x9_1).f2), .bool ((rd_T50 l0 x9_1).f3), .bool ((rd_T50 l0 x9_1).f4)] 50 (0, 0)) (by (with_reducible repeat (first | refine blk_drewN ?_ _ | refine blk_drew ?_ | refine blk_alloc ?_ _)); exact BK292.out) hg (Kd.R_ne HO_8.out BK292.out (by decide))); have n1_ := Aside0.mk (Kd.R_over' (by (with_reducible repeat (first | apply Kd.rA | apply Kd.rN | apply Kd.rD)); exact HO296.out) (Kd.R_typed (by (with_reducible repeat (first | apply Kd.rA | apply Kd.rN | apply Kd.rD)); exact HO_8.out)) (by decide) hg); have n2_ := Aside0.mk (Kd.R_over' (by (with_reducible repeat (first | apply Kd.rA | apply Kd.rN | apply Kd.rD)); exact HO299.out) (Kd.R_typed (by (with_reducible repeat (first | apply Kd.rA | apply Kd.rN | apply Kd.rD)); exact HO_8.out)) (by decide) hg); have n3_ := Aside0.mk (Kd.R_after (ok := (fun _ => True)) (by (with_reducible repeat (first | apply Kd.rA | apply Kd.rN | apply Kd.rD)); exact HO302.out) hg hat); have n4_ := Aside0.mk (hb); have n5_ := Aside0.mk (ho); clear BK292; clear HO296; clear HO299; clear HO302; clear HB; clear HO_8; have BK292 := n0_; have HO296 := n1_; have HO299 := n2_; have HO302 := n3_; have HB := n4_; have HO305 := n5_; clear n0_ n1_ n2_ n3_ n4_ n5_; clear ho hb hg hat))
    go_roundg k1
    case measure => have := HK1.out; omega
    case rel => exact ⟨(y297), (y303), (wrap64 (x9_1 + 1)), (wrap64 (x10_1 + 1)), (by first | rfl | (simp; done) | (simp [*]; done)), (by first | rfl | (simp; done) | (simp [*]; done)), H', ⟨by have := HK1.out; omega⟩, ⟨by (with_reducible repeat (first | apply Kd.rA | apply Kd.rN | apply Kd.rD)); exact Kd.R_mono HO299.out (fun _ hk => trivial)⟩, ⟨by (with_reducible repeat (first | apply Kd.rA | apply Kd.rN | apply Kd.rD)); exact Kd.R_mono HO305.out (fun _ hk => trivial)⟩, ⟨by repeat (first | (with_reducible first | exact HB.out | apply bA | apply bN | apply bD | refine below_set ?_ GE292.out) | exact HB.out)⟩⟩
   rw [if_neg c23] at H
   have c23b0 : (((rd_T58 l1 x10_1).f0) == 1) = false := beq_eq_false_iff_ne.mpr c23
   have c23b1 : (((rd_T58 l1 x10_1).f0) != 1) = true := bne_iff_ne.mpr c23
   by_cases c36 : ((rd_T58 l1 x10_1).f0) = 5
   ·rw [if_pos c36] at H
    have c36b0 : (((rd_T58 l1 x10_1).f0) == 5) = true := beq_iff_eq.mpr c36
    have c36b1 : (((rd_T58 l1 x10_1).f0) != 5) = false := bne_eq_false_iff_eq.mpr c36
    clear c36
    obtain ⟨y306, hy306⟩ : ∃ y_ : List (S58), y_ = (([(⟨4, (⟨(rd_T50 l0 x9_1).f0, (rd_T50 l0 x9_1).f1, (rd_T50 l0 x9_1).f2, (rd_T50 l0 x9_1).f3, (rd_T50 l0 x9_1).f4⟩ : S50)⟩ : S58)] : List (S58))) := ⟨_, rfl⟩
    replace H : (if x8_1.length + y306.length < 3518437208883 then (salchowref25_apply.l0 k1 l0 l1 x7_1 (x8_1 ++ y306) (wrap64 (x9_1 + 1)) (wrap64 (x10_1 + 1))) else (none)) = some (r1, r2, r3) := by first | (rw [hy306]; with_reducible exact H) | (have H2_ := (Option.bind_some _ _).symm.trans H; rw [hy306]; with_reducible exact H2_) | (have H2_ := (Option.bind_some _ _).symm.trans H; with_reducible exact H2_) | with_reducible exact H | (rw [hy306]; exact H) | exact H
    have Ny306 := Aside0.mk hy306
    clear hy306
    by_cases c37 : x8_1.length + y306.length < 3518437208883
    rotate_left
    ·rw [if_neg c37] at H
     exact absurd H (by simp)
    rw [if_pos c37] at H
    have LMc37 := Aside0.mk c37
    clear c37
    obtain ⟨y309, hy309⟩ : ∃ y_ : List (S58), y_ = (x8_1 ++ y306) := ⟨_, rfl⟩
    replace H : (salchowref25_apply.l0 k1 l0 l1 x7_1 y309 (wrap64 (x9_1 + 1)) (wrap64 (x10_1 + 1))) = some (r1, r2, r3) := by first | (rw [hy309]; with_reducible exact H) | (have H2_ := (Option.bind_some _ _).symm.trans H; rw [hy309]; with_reducible exact H2_) | (have H2_ := (Option.bind_some _ _).symm.trans H; with_reducible exact H2_) | with_reducible exact H | (rw [hy309]; exact H) | exact H
    have Ny309 := Aside0.mk hy309
    clear hy309
    have H' := Aside0.mk H
    clear H
    have p277 : 0 ≤ (x10_1 : Int) := of_decide_eq_true (by first | (with_reducible assumption) | assumption)
    have q277 : x10_1 < (l1.length : Int) := of_decide_eq_true (by first | (with_reducible assumption) | assumption)
    obtain ⟨ad277, e277, hx277_0, hx277_1, hx277_2, hx277_3, hx277_4, hx277_5⟩ := at_T58 HR1.out x10_1 p277 q277
    cases e277
    replace hx277_0 := (HB.out.cell (World.block_lt_of_cell? w _ hx277_0)).trans hx277_0
    replace hx277_1 := (HB.out.cell (World.block_lt_of_cell? w _ hx277_1)).trans hx277_1
    replace hx277_2 := (HB.out.cell (World.block_lt_of_cell? w _ hx277_2)).trans hx277_2
    replace hx277_3 := (HB.out.cell (World.block_lt_of_cell? w _ hx277_3)).trans hx277_3
    replace hx277_4 := (HB.out.cell (World.block_lt_of_cell? w _ hx277_4)).trans hx277_4
    replace hx277_5 := (HB.out.cell (World.block_lt_of_cell? w _ hx277_5)).trans hx277_5
    replace p277 := eq_true p277
    replace q277 := eq_true q277
    have p291 : 0 ≤ (x9_1 : Int) := of_decide_eq_true (by first | (with_reducible assumption) | assumption)
    have q291 : x9_1 < (l0.length : Int) := of_decide_eq_true (by first | (with_reducible assumption) | assumption)
    obtain ⟨ad291, e291, hx291_0, hx291_1, hx291_2, hx291_3, hx291_4⟩ := at_T50 HR0.out x9_1 p291 q291
    cases e291
    replace hx291_0 := (HB.out.cell (World.block_lt_of_cell? w _ hx291_0)).trans hx291_0
    replace hx291_1 := (HB.out.cell (World.block_lt_of_cell? w _ hx291_1)).trans hx291_1
    replace hx291_2 := (HB.out.cell (World.block_lt_of_cell? w _ hx291_2)).trans hx291_2
    replace hx291_3 := (HB.out.cell (World.block_lt_of_cell? w _ hx291_3)).trans hx291_3
    replace hx291_4 := (HB.out.cell (World.block_lt_of_cell? w _ hx291_4)).trans hx291_4
    replace p291 := eq_true p291
    replace q291 := eq_true q291
    go_wp2_with (first | ((with_reducible refine gate_dst (N := 11) rfl ?_); refine box_event ?hg (N := 11) ?hd (cs := #[.string (⟨#[]⟩ : ByteArray), .int .i64 0, .bool false, .bool false, .bool false]) (t := 50) ?hr ?_; (case hd => rfl); (case hg => rfl); (case hr => first | (go_simp; done) | (go_simp; rfl)); intro gb292 hg w38 hbox hb; have n0_ := Aside0.mk (Kd.R_below (Kd.R_elderB (by (with_reducible repeat (first | apply Kd.rA | apply Kd.rN | apply Kd.rD)); exact HO_7.out) gb292 (Nat.le_of_eq hg.symm)) hb); have n1_ := Aside0.mk (Kd.R_below (by (with_reducible repeat (first | apply Kd.rA | apply Kd.rN | apply Kd.rD)); exact HO_8.out) hb); have n2_ := Aside0.mk (below_step (by repeat (first | (with_reducible first | exact HB.out | apply bA | apply bN | apply bD) | exact HB.out)) hb); have n3_ := Aside0.mk (hbox); have n4_ := Aside0.mk ((by rw [hg]; exact (below_size (by repeat (first | (with_reducible first | exact HB.out | apply bA | apply bN | apply bD) | exact HB.out))) : w.heap.size ≤ gb292)); have n5_ := Aside0.mk ((by rw [hg]; exact (below_size (by repeat (first | (with_reducible first | exact HB.out | apply bA | apply bN | apply bD) | exact HB.out))) : w.heap.size ≤ gb292)); clear HO_7; clear HO_8; clear HB; have HO_7 := n0_; have HO_8 := n1_; have HB := n2_; have BK292 := n3_; have GW292 := n4_; have GE292 := n5_; clear n0_ n1_ n2_ n3_ n4_ n5_; clear hb hbox hg; have hcz39_0 : w38.cell? ⟨gb292, 0, none⟩ = some (.string (⟨#[]⟩ : ByteArray)) := (blk_cell BK292.out 0).trans rfl; have hcz39_1 : w38.cell? ⟨gb292, 1, none⟩ = some (.int .i64 0) := (blk_cell BK292.out 1).trans rfl; have hcz39_2 : w38.cell? ⟨gb292, 2, none⟩ = some (.bool false) := (blk_cell BK292.out 2).trans rfl; have hcz39_3 : w38.cell? ⟨gb292, 3, none⟩ = some (.bool false) := (blk_cell BK292.out 3).trans rfl; have hcz39_4 : w38.cell? ⟨gb292, 4, none⟩ = some (.bool false) := (blk_cell BK292.out 4).trans rfl; have hfz39_0 := blk_frozen BK292.out 0; have hfz39_1 := blk_frozen BK292.out 1; have hfz39_2 := blk_frozen BK292.out 2; have hfz39_3 := blk_frozen BK292.out 3; have hfz39_4 := blk_frozen BK292.out 4; have p293 : 0 ≤ (x10_1 : Int) := of_decide_eq_true (by first | (with_reducible assumption) | assumption); have q293 : x10_1 < (l1.length : Int) := of_decide_eq_true (by first | (with_reducible assumption) | assumption); obtain ⟨ad293, e293, hx293_0, hx293_1, hx293_2, hx293_3, hx293_4, hx293_5⟩ := at_T58 HR1.out x10_1 p293 q293; obtain rfl : ad277 = ad293 := (by injection e293); have hn293_0 : ad277.block ≠ gb292 := Nat.ne_of_lt (Nat.lt_of_lt_of_le (by have := World.block_lt_of_cell? _ _ hx293_0; first | rwa [add_block] at this | exact this) GW292.out); have hn293_1 : ad277.block ≠ gb292 := Nat.ne_of_lt (Nat.lt_of_lt_of_le (by have := World.block_lt_of_cell? _ _ hx293_0; first | rwa [add_block] at this | exact this) GW292.out); have hn293_2 : ad277.block ≠ gb292 := Nat.ne_of_lt (Nat.lt_of_lt_of_le (by have := World.block_lt_of_cell? _ _ hx293_0; first | rwa [add_block] at this | exact this) GW292.out); have hn293_3 : ad277.block ≠ gb292 := Nat.ne_of_lt (Nat.lt_of_lt_of_le (by have := World.block_lt_of_cell? _ _ hx293_0; first | rwa [add_block] at this | exact this) GW292.out); have hn293_4 : ad277.block ≠ gb292 := Nat.ne_of_lt (Nat.lt_of_lt_of_le (by have := World.block_lt_of_cell? _ _ hx293_0; first | rwa [add_block] at this | exact this) GW292.out); replace hx293_0 := (HB.out.cell (World.block_lt_of_cell? w _ hx293_0)).trans hx293_0; replace hx293_1 := (HB.out.cell (World.block_lt_of_cell? w _ hx293_1)).trans hx293_1; replace hx293_2 := (HB.out.cell (World.block_lt_of_cell? w _ hx293_2)).trans hx293_2; replace hx293_3 := (HB.out.cell (World.block_lt_of_cell? w _ hx293_3)).trans hx293_3; replace hx293_4 := (HB.out.cell (World.block_lt_of_cell? w _ hx293_4)).trans hx293_4; replace hx293_5 := (HB.out.cell (World.block_lt_of_cell? w _ hx293_5)).trans hx293_5; replace hx293_0 := (cell_far (p := ⟨gb292, 0, none⟩) (by first | (rw [add_block]; exact hn293_0) | (show (Addr.add _ _).block ≠ _; rw [add_block]; exact hn293_0) | exact hn293_0) (.string ((rd_T50 l0 x9_1).f0))).trans hx293_0; replace hx293_1 := (cell_far (p := ⟨gb292, 0, none⟩) (by first | (rw [add_block]; exact hn293_0) | (show (Addr.add _ _).block ≠ _; rw [add_block]; exact hn293_0) | exact hn293_0) (.string ((rd_T50 l0 x9_1).f0))).trans hx293_1; replace hx293_2 := (cell_far (p := ⟨gb292, 0, none⟩) (by first | (rw [add_block]; exact hn293_0) | (show (Addr.add _ _).block ≠ _; rw [add_block]; exact hn293_0) | exact hn293_0) (.string ((rd_T50 l0 x9_1).f0))).trans hx293_2; replace hx293_3 := (cell_far (p := ⟨gb292, 0, none⟩) (by first | (rw [add_block]; exact hn293_0) | (show (Addr.add _ _).block ≠ _; rw [add_block]; exact hn293_0) | exact hn293_0) (.string ((rd_T50 l0 x9_1).f0))).trans hx293_3; replace hx293_4 := (cell_far (p := ⟨gb292, 0, none⟩) (by first | (rw [add_block]; exact hn293_0) | (show (Addr.add _ _).block ≠ _; rw [add_block]; exact hn293_0) | exact hn293_0) (.string ((rd_T50 l0 x9_1).f0))).trans hx293_4; replace hx293_5 := (cell_far (p := ⟨gb292, 0, none⟩) (by first | (rw [add_block]; exact hn293_0) | (show (Addr.add _ _).block ≠ _; rw [add_block]; exact hn293_0) | exact hn293_0) (.string ((rd_T50 l0 x9_1).f0))).trans hx293_5; replace hx293_0 := (cell_far (p := ⟨gb292, 1, none⟩) (by first | (rw [add_block]; exact hn293_1) | (show (Addr.add _ _).block ≠ _; rw [add_block]; exact hn293_1) | exact hn293_1) (.int .i64 ((rd_T50 l0 x9_1).f1))).trans hx293_0; replace hx293_1 := (cell_far (p := ⟨gb292, 1, none⟩) (by first | (rw [add_block]; exact hn293_1) | (show (Addr.add _ _).block ≠ _; rw [add_block]; exact hn293_1) | exact hn293_1) (.int .i64 ((rd_T50 l0 x9_1).f1))).trans hx293_1; replace hx293_2 := (cell_far (p := ⟨gb292, 1, none⟩) (by first | (rw [add_block]; exact hn293_1) | (show (Addr.add _ _).block ≠ _; rw [add_block]; exact hn293_1) | exact hn293_1) (.int .i64 ((rd_T50 l0 x9_1).f1))).trans hx293_2; replace hx293_3 := (cell_far (p := ⟨gb292, 1, none⟩) (by first | (rw [add_block]; exact hn293_1) | (show (Addr.add _ _).block ≠ _; rw [add_block]; exact hn293_1) | exact hn293_1) (.int .i64 ((rd_T50 l0 x9_1).f1))).trans hx293_3; replace hx293_4 := (cell_far (p := ⟨gb292, 1, none⟩) (by first | (rw [add_block]; exact hn293_1) | (show (Addr.add _ _).block ≠ _; rw [add_block]; exact hn293_1) | exact hn293_1) (.int .i64 ((rd_T50 l0 x9_1).f1))).trans hx293_4; replace hx293_5 := (cell_far (p := ⟨gb292, 1, none⟩) (by first | (rw [add_block]; exact hn293_1) | (show (Addr.add _ _).block ≠ _; rw [add_block]; exact hn293_1) | exact hn293_1) (.int .i64 ((rd_T50 l0 x9_1).f1))).trans hx293_5; replace hx293_0 := (cell_far (p := ⟨gb292, 2, none⟩) (by first | (rw [add_block]; exact hn293_2) | (show (Addr.add _ _).block ≠ _; rw [add_block]; exact hn293_2) | exact hn293_2) (.bool ((rd_T50 l0 x9_1).f2))).trans hx293_0; replace hx293_1 := (cell_far (p := ⟨gb292, 2, none⟩) (by first | (rw [add_block]; exact hn293_2) | (show (Addr.add _ _).block ≠ _; rw [add_block]; exact hn293_2) | exact hn293_2) (.bool ((rd_T50 l0 x9_1).f2))).trans hx293_1; replace hx293_2 := (cell_far (p := ⟨gb292, 2, none⟩) (by first | (rw [add_block]; exact hn293_2) | (show (Addr.add _ _).block ≠ _; rw [add_block]; exact hn293_2) | exact hn293_2) (.bool ((rd_T50 l0 x9_1).f2))).trans hx293_2; replace hx293_3 := (cell_far (p := ⟨gb292, 2, none⟩) (by first | (rw [add_block]; exact hn293_2) | (show (Addr.add _ _).block ≠ _; rw [add_block]; exact hn293_2) | exact hn293_2) (.bool ((rd_T50 l0 x9_1).f2))).trans hx293_3; replace hx293_4 := (cell_far (p := ⟨gb292, 2, none⟩) (by first | (rw [add_block]; exact hn293_2) | (show (Addr.add _ _).block ≠ _; rw [add_block]; exact hn293_2) | exact hn293_2) (.bool ((rd_T50 l0 x9_1).f2))).trans hx293_4; replace hx293_5 := (cell_far (p := ⟨gb292, 2, none⟩) (by first | (rw [add_block]; exact hn293_2) | (show (Addr.add _ _).block ≠ _; rw [add_block]; exact hn293_2) | exact hn293_2) (.bool ((rd_T50 l0 x9_1).f2))).trans hx293_5; replace hx293_0 := (cell_far (p := ⟨gb292, 3, none⟩) (by first | (rw [add_block]; exact hn293_3) | (show (Addr.add _ _).block ≠ _; rw [add_block]; exact hn293_3) | exact hn293_3) (.bool ((rd_T50 l0 x9_1).f3))).trans hx293_0; replace hx293_1 := (cell_far (p := ⟨gb292, 3, none⟩) (by first | (rw [add_block]; exact hn293_3) | (show (Addr.add _ _).block ≠ _; rw [add_block]; exact hn293_3) | exact hn293_3) (.bool ((rd_T50 l0 x9_1).f3))).trans hx293_1; replace hx293_2 := (cell_far (p := ⟨gb292, 3, none⟩) (by first | (rw [add_block]; exact hn293_3) | (show (Addr.add _ _).block ≠ _; rw [add_block]; exact hn293_3) | exact hn293_3) (.bool ((rd_T50 l0 x9_1).f3))).trans hx293_2; replace hx293_3 := (cell_far (p := ⟨gb292, 3, none⟩) (by first | (rw [add_block]; exact hn293_3) | (show (Addr.add _ _).block ≠ _; rw [add_block]; exact hn293_3) | exact hn293_3) (.bool ((rd_T50 l0 x9_1).f3))).trans hx293_3; replace hx293_4 := (cell_far (p := ⟨gb292, 3, none⟩) (by first | (rw [add_block]; exact hn293_3) | (show (Addr.add _ _).block ≠ _; rw [add_block]; exact hn293_3) | exact hn293_3) (.bool ((rd_T50 l0 x9_1).f3))).trans hx293_4; replace hx293_5 := (cell_far (p := ⟨gb292, 3, none⟩) (by first | (rw [add_block]; exact hn293_3) | (show (Addr.add _ _).block ≠ _; rw [add_block]; exact hn293_3) | exact hn293_3) (.bool ((rd_T50 l0 x9_1).f3))).trans hx293_5; replace hx293_0 := (cell_far (p := ⟨gb292, 4, none⟩) (by first | (rw [add_block]; exact hn293_4) | (show (Addr.add _ _).block ≠ _; rw [add_block]; exact hn293_4) | exact hn293_4) (.bool ((rd_T50 l0 x9_1).f4))).trans hx293_0; replace hx293_1 := (cell_far (p := ⟨gb292, 4, none⟩) (by first | (rw [add_block]; exact hn293_4) | (show (Addr.add _ _).block ≠ _; rw [add_block]; exact hn293_4) | exact hn293_4) (.bool ((rd_T50 l0 x9_1).f4))).trans hx293_1; replace hx293_2 := (cell_far (p := ⟨gb292, 4, none⟩) (by first | (rw [add_block]; exact hn293_4) | (show (Addr.add _ _).block ≠ _; rw [add_block]; exact hn293_4) | exact hn293_4) (.bool ((rd_T50 l0 x9_1).f4))).trans hx293_2; replace hx293_3 := (cell_far (p := ⟨gb292, 4, none⟩) (by first | (rw [add_block]; exact hn293_4) | (show (Addr.add _ _).block ≠ _; rw [add_block]; exact hn293_4) | exact hn293_4) (.bool ((rd_T50 l0 x9_1).f4))).trans hx293_3; replace hx293_4 := (cell_far (p := ⟨gb292, 4, none⟩) (by first | (rw [add_block]; exact hn293_4) | (show (Addr.add _ _).block ≠ _; rw [add_block]; exact hn293_4) | exact hn293_4) (.bool ((rd_T50 l0 x9_1).f4))).trans hx293_4; replace hx293_5 := (cell_far (p := ⟨gb292, 4, none⟩) (by first | (rw [add_block]; exact hn293_4) | (show (Addr.add _ _).block ≠ _; rw [add_block]; exact hn293_4) | exact hn293_4) (.bool ((rd_T50 l0 x9_1).f4))).trans hx293_5; clear hn293_0; clear hn293_1; clear hn293_2; clear hn293_3; clear hn293_4; replace p293 := eq_true p293; replace q293 := eq_true q293) | ((with_reducible refine gate_dst (N := 99) rfl ?_); refine Kd.R_lit k58 _ 58 ?hg (N := 99) ?hd (xs := ([(⟨4, (⟨(rd_T50 l0 x9_1).f0, (rd_T50 l0 x9_1).f1, (rd_T50 l0 x9_1).f2, (rd_T50 l0 x9_1).f3, (rd_T50 l0 x9_1).f4⟩ : S50)⟩ : S58)] : List (S58))) (inner := [.int .i64 4, .string ((rd_T50 l0 x9_1).f0), .int .i64 ((rd_T50 l0 x9_1).f1), .bool ((rd_T50 l0 x9_1).f2), .bool ((rd_T50 l0 x9_1).f3), .bool ((rd_T50 l0 x9_1).f4)]) (ok := fun _ => True) (okp := fun _ => True) ?hr ?hp (fun _ hk => hk) trivial (Below.refl _ _) (Nat.le_refl _) (by simp) ?_; (case hd => rfl); (case hg => rfl); (case hr => first | (go_simp; done) | (go_simp; rfl)); (case hp => exact (Reps.c6 (show Kd.M k58 _ _ _ (⟨4, (⟨(rd_T50 l0 x9_1).f0, (rd_T50 l0 x9_1).f1, (rd_T50 l0 x9_1).f2, (rd_T50 l0 x9_1).f3, (rd_T50 l0 x9_1).f4⟩ : S50)⟩ : S58) [.int .i64 4, .string ((rd_T50 l0 x9_1).f0), .int .i64 ((rd_T50 l0 x9_1).f1), .bool ((rd_T50 l0 x9_1).f2), .bool ((rd_T50 l0 x9_1).f3), .bool ((rd_T50 l0 x9_1).f4)] from (k58_mkM _ _ _ (⟨4, (⟨(rd_T50 l0 x9_1).f0, (rd_T50 l0 x9_1).f1, (rd_T50 l0 x9_1).f2, (rd_T50 l0 x9_1).f3, (rd_T50 l0 x9_1).f4⟩ : S50)⟩ : S58) )) (Reps.none _ _))); intro v307 w40 ho41 hb hg_ hnew_; clear hg_ hnew_; (first | rw [← Ny306.out] at ho41 | (simp only [Int.reduceToNat] at ho41; rw [← Ny306.out] at ho41)); have n0_ := Aside0.mk (Kd.R_below (by (with_reducible repeat (first | apply Kd.rA | apply Kd.rN | apply Kd.rD)); exact (Kd.R_mono (Kd.R_far (p := ⟨gb292, 4, none⟩) (Kd.R_far (p := ⟨gb292, 3, none⟩) (Kd.R_far (p := ⟨gb292, 2, none⟩) (Kd.R_far (p := ⟨gb292, 1, none⟩) (Kd.R_far (p := ⟨gb292, 0, none⟩) (Kd.R_mono HO_7.out (fun k_ hk => (⟨hk, hk.2⟩ : _ ∧ k_ ≠ gb292))) (fun _ hk => hk.2) (.string ((rd_T50 l0 x9_1).f0))) (fun _ hk => hk.2) (.int .i64 ((rd_T50 l0 x9_1).f1))) (fun _ hk => hk.2) (.bool ((rd_T50 l0 x9_1).f2))) (fun _ hk => hk.2) (.bool ((rd_T50 l0 x9_1).f3))) (fun _ hk => hk.2) (.bool ((rd_T50 l0 x9_1).f4))) (fun _ h_ => h_.1))) hb); have n1_ := Aside0.mk (Kd.R_elder' (by (with_reducible repeat (first | apply Kd.rA | apply Kd.rN | apply Kd.rD)); exact (Kd.R_mono (Kd.R_far (p := ⟨gb292, 4, none⟩) (Kd.R_far (p := ⟨gb292, 3, none⟩) (Kd.R_far (p := ⟨gb292, 2, none⟩) (Kd.R_far (p := ⟨gb292, 1, none⟩) (Kd.R_far (p := ⟨gb292, 0, none⟩) (Kd.R_types HO_8.out BK292.out (by decide)) (fun _ hk => hk.2) (.string ((rd_T50 l0 x9_1).f0))) (fun _ hk => hk.2) (.int .i64 ((rd_T50 l0 x9_1).f1))) (fun _ hk => hk.2) (.bool ((rd_T50 l0 x9_1).f2))) (fun _ hk => hk.2) (.bool ((rd_T50 l0 x9_1).f3))) (fun _ hk => hk.2) (.bool ((rd_T50 l0 x9_1).f4))) (fun _ h_ => h_.1))) (Kd.R_base ho41) hb); have n2_ := Aside0.mk (Kd.R_lower (Kd.R_new' ho41 (Kd.R_lt (by (with_reducible repeat (first | apply Kd.rA | apply Kd.rN | apply Kd.rD)); exact (Kd.R_mono (Kd.R_far (p := ⟨gb292, 4, none⟩) (Kd.R_far (p := ⟨gb292, 3, none⟩) (Kd.R_far (p := ⟨gb292, 2, none⟩) (Kd.R_far (p := ⟨gb292, 1, none⟩) (Kd.R_far (p := ⟨gb292, 0, none⟩) (Kd.R_types HO_8.out BK292.out (by decide)) (fun _ hk => hk.2) (.string ((rd_T50 l0 x9_1).f0))) (fun _ hk => hk.2) (.int .i64 ((rd_T50 l0 x9_1).f1))) (fun _ hk => hk.2) (.bool ((rd_T50 l0 x9_1).f2))) (fun _ hk => hk.2) (.bool ((rd_T50 l0 x9_1).f3))) (fun _ hk => hk.2) (.bool ((rd_T50 l0 x9_1).f4))) (fun _ h_ => h_.1))))) (below_size (by repeat (first | (with_reducible first | exact HB.out | apply bA | apply bN | apply bD | refine below_set ?_ GE292.out) | exact HB.out)))); have n3_ := Aside0.mk (blk_below (g := gb292) (o := .cells #[.string ((rd_T50 l0 x9_1).f0), .int .i64 ((rd_T50 l0 x9_1).f1), .bool ((rd_T50 l0 x9_1).f2), .bool ((rd_T50 l0 x9_1).f3), .bool ((rd_T50 l0 x9_1).f4)] 50 (0, 0)) (by (with_reducible repeat (first | refine blk_drewN ?_ _ | refine blk_drew ?_ | refine blk_alloc ?_ _)); refine blk_put (cs := #[.string ((rd_T50 l0 x9_1).f0), .int .i64 ((rd_T50 l0 x9_1).f1), .bool ((rd_T50 l0 x9_1).f2), .bool ((rd_T50 l0 x9_1).f3), .bool false]) ?_ 4 _ rfl; (with_reducible repeat (first | refine blk_drewN ?_ _ | refine blk_drew ?_ | refine blk_alloc ?_ _)); refine blk_put (cs := #[.string ((rd_T50 l0 x9_1).f0), .int .i64 ((rd_T50 l0 x9_1).f1), .bool ((rd_T50 l0 x9_1).f2), .bool false, .bool false]) ?_ 3 _ rfl; (with_reducible repeat (first | refine blk_drewN ?_ _ | refine blk_drew ?_ | refine blk_alloc ?_ _)); refine blk_put (cs := #[.string ((rd_T50 l0 x9_1).f0), .int .i64 ((rd_T50 l0 x9_1).f1), .bool false, .bool false, .bool false]) ?_ 2 _ rfl; (with_reducible repeat (first | refine blk_drewN ?_ _ | refine blk_drew ?_ | refine blk_alloc ?_ _)); refine blk_put (cs := #[.string ((rd_T50 l0 x9_1).f0), .int .i64 0, .bool false, .bool false, .bool false]) ?_ 1 _ rfl; (with_reducible repeat (first | refine blk_drewN ?_ _ | refine blk_drew ?_ | refine blk_alloc ?_ _)); refine blk_put (cs := #[.string (⟨#[]⟩ : ByteArray), .int .i64 0, .bool false, .bool false, .bool false]) ?_ 0 _ rfl; (with_reducible repeat (first | refine blk_drewN ?_ _ | refine blk_drew ?_ | refine blk_alloc ?_ _)); exact BK292.out) hb); have n4_ := Aside0.mk (below_step (by repeat (first | (with_reducible first | exact HB.out | apply bA | apply bN | apply bD | refine below_set ?_ GE292.out) | exact HB.out)) hb); clear HO_7; clear HO_8; clear BK292; clear HB; have HO_7 := n0_; have HO_8 := n1_; have HO308 := n2_; have BK292 := n3_; have HB := n4_; clear n0_ n1_ n2_ n3_ n4_; clear hb ho41; obtain ⟨Ao43, co43, eo43⟩ := Kd.R_slice HO308.out; subst eo43) | ((with_reducible refine gate_builtin (b := .append) (xs := #[.tmp 96, .tmp 99]) rfl ?_); at_builtin; refine Kd.R_append_rows k58 (w0 := w) w.heap.size rfl (.tmp 96) (.tmp 99) 31 58 (.agg #[(.int .i64 0), (.string ⟨#[]⟩), (.int .i64 0), (.bool false), (.bool false), (.bool false)]) 40 rfl Try.underlying31 info58 rfl (by decide) (by omega) u8 x8_1 y306 _ _ _ (fun k_ => some k_ ≠ (.slice Ao43 y306.length co43 : Value).ownBlock) (fun _ => False) rfl rfl ?aO ?aR (fun _ _ h => h) (fun _ h => h.elim) ?aF ?aB ?aS ?aL ?_; (case aR => repeat (first | exact (Kd.R_reads' HO308.out).2.2 | (with_reducible apply Kd.C_alloc) | (with_reducible apply Kd.C_drewN) | (with_reducible apply Kd.C_drew))); (case aB => exact (by repeat (first | (with_reducible first | exact HB.out | apply bA | apply bN | apply bD | refine below_set ?_ GE292.out) | exact HB.out))); (case aF => exact (fun k_ hk => Kd.fresh' (Kd.R_lt (by (with_reducible repeat (first | apply Kd.rA | apply Kd.rN | apply Kd.rD)); exact HO308.out)) k_ hk)); (case aO => exact (by (with_reducible repeat (first | apply Kd.rA | apply Kd.rN | apply Kd.rD)); exact Kd.R_mono HO_8.out (fun _ hk => hk.2))); (case aS => exact (below_size (by repeat (first | (with_reducible first | exact HB.out | apply bA | apply bN | apply bD | refine below_set ?_ GE292.out) | exact HB.out)))); (case aL => have := LMc37.out; omega); intro v310 w42 ho hb hg hat; rw [← Ny309.out] at ho; have n0_ := Aside0.mk (Kd.R_over' (by (with_reducible repeat (first | apply Kd.rA | apply Kd.rN | apply Kd.rD)); exact HO_7.out) (Kd.R_typed (by (with_reducible repeat (first | apply Kd.rA | apply Kd.rN | apply Kd.rD)); exact HO_8.out)) (by decide) hg); have n1_ := Aside0.mk (blk_grown (g := gb292) (o := .cells #[.string ((rd_T50 l0 x9_1).f0), .int .i64 ((rd_T50 l0 x9_1).f1), .bool ((rd_T50 l0 x9_1).f2), .bool ((rd_T50 l0 x9_1).f3), .bool ((rd_T50 l0 x9_1).f4)] 50 (0, 0)) (by (with_reducible repeat (first | refine blk_drewN ?_ _ | refine blk_drew ?_ | refine blk_alloc ?_ _)); exact BK292.out) hg (Kd.R_ne HO_8.out BK292.out (by decide))); have n2_ := Aside0.mk (Kd.R_after (ok := (fun _ => True)) (by (with_reducible repeat (first | apply Kd.rA | apply Kd.rN | apply Kd.rD)); exact HO308.out) hg hat); have n3_ := Aside0.mk (hb); have n4_ := Aside0.mk (ho); clear HO_7; clear BK292; clear HO308; clear HB; clear HO_8; have HO_7 := n0_; have BK292 := n1_; have HO308 := n2_; have HB := n3_; have HO311 := n4_; clear n0_ n1_ n2_ n3_ n4_; clear ho hb hg hat))
    go_roundg k1
    case measure => have := HK1.out; omega
    case rel => exact ⟨(x7_1), (y309), (wrap64 (x9_1 + 1)), (wrap64 (x10_1 + 1)), (by first | rfl | (simp; done) | (simp [*]; done)), (by first | rfl | (simp; done) | (simp [*]; done)), H', ⟨by have := HK1.out; omega⟩, ⟨by (with_reducible repeat (first | apply Kd.rA | apply Kd.rN | apply Kd.rD)); exact Kd.R_mono HO_7.out (fun _ hk => trivial)⟩, ⟨by (with_reducible repeat (first | apply Kd.rA | apply Kd.rN | apply Kd.rD)); exact Kd.R_mono HO311.out (fun _ hk => trivial)⟩, ⟨by repeat (first | (with_reducible first | exact HB.out | apply bA | apply bN | apply bD | refine below_set ?_ GE292.out) | exact HB.out)⟩⟩
   rw [if_neg c36] at H
   have c36b0 : (((rd_T58 l1 x10_1).f0) == 5) = false := beq_eq_false_iff_ne.mpr c36
   have c36b1 : (((rd_T58 l1 x10_1).f0) != 5) = true := bne_iff_ne.mpr c36
   replace H := Option.bind_eq_some_iff.mp H
   obtain ⟨t313, A440, H⟩ := H
   replace H : (if t313 = ((rd_T58 l1 x10_1).f0) then ((some (([(⟨(rd_T58 l1 x10_1).f1.f0, (rd_T58 l1 x10_1).f1.f1, (rd_T58 l1 x10_1).f1.f2, (rd_T58 l1 x10_1).f1.f3, (rd_T58 l1 x10_1).f1.f4⟩ : S50)] : List (S50)) : List (S50))).bind fun y316 => (if x7_1.length + y316.length < 4398046511104 then ((some (([(⟨(rd_T58 l1 x10_1).f0, (⟨(rd_T50 l0 x9_1).f0, (rd_T50 l0 x9_1).f1, (rd_T50 l0 x9_1).f2, (rd_T50 l0 x9_1).f3, (rd_T50 l0 x9_1).f4⟩ : S50)⟩ : S58)] : List (S58)) : List (S58))).bind fun y323 => (if x8_1.length + y323.length < 3518437208883 then (salchowref25_apply.l0 k1 l0 l1 (x7_1 ++ y316) (x8_1 ++ y323) (wrap64 (x9_1 + 1)) (wrap64 (x10_1 + 1))) else (none))) else (none))) else (some (([] : List (S50)), ([] : List (S58)), false))) = some (r1, r2, r3) := H
   have A44 := Aside0.mk A440
   clear A440
   by_cases c45 : t313 = ((rd_T58 l1 x10_1).f0)
   rotate_left
   ·rw [if_neg c45] at H
    have c45b0 : (t313 == ((rd_T58 l1 x10_1).f0)) = false := beq_eq_false_iff_ne.mpr c45
    have c45b1 : (t313 != ((rd_T58 l1 x10_1).f0)) = true := bne_iff_ne.mpr c45
    simp only [Option.some.injEq, Prod.mk.injEq] at H
    obtain ⟨rfl, rfl, rfl⟩ := H
    have p277 : 0 ≤ (x10_1 : Int) := of_decide_eq_true (by first | (with_reducible assumption) | assumption)
    have q277 : x10_1 < (l1.length : Int) := of_decide_eq_true (by first | (with_reducible assumption) | assumption)
    obtain ⟨ad277, e277, hx277_0, hx277_1, hx277_2, hx277_3, hx277_4, hx277_5⟩ := at_T58 HR1.out x10_1 p277 q277
    cases e277
    replace hx277_0 := (HB.out.cell (World.block_lt_of_cell? w _ hx277_0)).trans hx277_0
    replace hx277_1 := (HB.out.cell (World.block_lt_of_cell? w _ hx277_1)).trans hx277_1
    replace hx277_2 := (HB.out.cell (World.block_lt_of_cell? w _ hx277_2)).trans hx277_2
    replace hx277_3 := (HB.out.cell (World.block_lt_of_cell? w _ hx277_3)).trans hx277_3
    replace hx277_4 := (HB.out.cell (World.block_lt_of_cell? w _ hx277_4)).trans hx277_4
    replace hx277_5 := (HB.out.cell (World.block_lt_of_cell? w _ hx277_5)).trans hx277_5
    replace p277 := eq_true p277
    replace q277 := eq_true q277
    have p291 : 0 ≤ (x9_1 : Int) := of_decide_eq_true (by first | (with_reducible assumption) | assumption)
    have q291 : x9_1 < (l0.length : Int) := of_decide_eq_true (by first | (with_reducible assumption) | assumption)
    obtain ⟨ad291, e291, hx291_0, hx291_1, hx291_2, hx291_3, hx291_4⟩ := at_T50 HR0.out x9_1 p291 q291
    cases e291
    replace hx291_0 := (HB.out.cell (World.block_lt_of_cell? w _ hx291_0)).trans hx291_0
    replace hx291_1 := (HB.out.cell (World.block_lt_of_cell? w _ hx291_1)).trans hx291_1
    replace hx291_2 := (HB.out.cell (World.block_lt_of_cell? w _ hx291_2)).trans hx291_2
    replace hx291_3 := (HB.out.cell (World.block_lt_of_cell? w _ hx291_3)).trans hx291_3
    replace hx291_4 := (HB.out.cell (World.block_lt_of_cell? w _ hx291_4)).trans hx291_4
    replace p291 := eq_true p291
    replace q291 := eq_true q291
    try go_wp2_with (first | ((with_reducible refine gate_dst (N := 11) rfl ?_); refine box_event ?hg (N := 11) ?hd (cs := #[.string (⟨#[]⟩ : ByteArray), .int .i64 0, .bool false, .bool false, .bool false]) (t := 50) ?hr ?_; (case hd => rfl); (case hg => rfl); (case hr => first | (go_simp; done) | (go_simp; rfl)); intro gb292 hg w65 hbox hb; have n0_ := Aside0.mk (Kd.R_below (Kd.R_elderB (by (with_reducible repeat (first | apply Kd.rA | apply Kd.rN | apply Kd.rD)); exact HO_7.out) gb292 (Nat.le_of_eq hg.symm)) hb); have n1_ := Aside0.mk (Kd.R_below (by (with_reducible repeat (first | apply Kd.rA | apply Kd.rN | apply Kd.rD)); exact HO_8.out) hb); have n2_ := Aside0.mk (below_step (by repeat (first | (with_reducible first | exact HB.out | apply bA | apply bN | apply bD) | exact HB.out)) hb); have n3_ := Aside0.mk (hbox); have n4_ := Aside0.mk ((by rw [hg]; exact (below_size (by repeat (first | (with_reducible first | exact HB.out | apply bA | apply bN | apply bD) | exact HB.out))) : w.heap.size ≤ gb292)); have n5_ := Aside0.mk ((by rw [hg]; exact (below_size (by repeat (first | (with_reducible first | exact HB.out | apply bA | apply bN | apply bD) | exact HB.out))) : w.heap.size ≤ gb292)); clear HO_7; clear HO_8; clear HB; have HO_7 := n0_; have HO_8 := n1_; have HB := n2_; have BK292 := n3_; have GW292 := n4_; have GE292 := n5_; clear n0_ n1_ n2_ n3_ n4_ n5_; clear hb hbox hg; have hcz66_0 : w65.cell? ⟨gb292, 0, none⟩ = some (.string (⟨#[]⟩ : ByteArray)) := (blk_cell BK292.out 0).trans rfl; have hcz66_1 : w65.cell? ⟨gb292, 1, none⟩ = some (.int .i64 0) := (blk_cell BK292.out 1).trans rfl; have hcz66_2 : w65.cell? ⟨gb292, 2, none⟩ = some (.bool false) := (blk_cell BK292.out 2).trans rfl; have hcz66_3 : w65.cell? ⟨gb292, 3, none⟩ = some (.bool false) := (blk_cell BK292.out 3).trans rfl; have hcz66_4 : w65.cell? ⟨gb292, 4, none⟩ = some (.bool false) := (blk_cell BK292.out 4).trans rfl; have hfz66_0 := blk_frozen BK292.out 0; have hfz66_1 := blk_frozen BK292.out 1; have hfz66_2 := blk_frozen BK292.out 2; have hfz66_3 := blk_frozen BK292.out 3; have hfz66_4 := blk_frozen BK292.out 4; have p293 : 0 ≤ (x10_1 : Int) := of_decide_eq_true (by first | (with_reducible assumption) | assumption); have q293 : x10_1 < (l1.length : Int) := of_decide_eq_true (by first | (with_reducible assumption) | assumption); obtain ⟨ad293, e293, hx293_0, hx293_1, hx293_2, hx293_3, hx293_4, hx293_5⟩ := at_T58 HR1.out x10_1 p293 q293; obtain rfl : ad277 = ad293 := (by injection e293); have hn293_0 : ad277.block ≠ gb292 := Nat.ne_of_lt (Nat.lt_of_lt_of_le (by have := World.block_lt_of_cell? _ _ hx293_0; first | rwa [add_block] at this | exact this) GW292.out); have hn293_1 : ad277.block ≠ gb292 := Nat.ne_of_lt (Nat.lt_of_lt_of_le (by have := World.block_lt_of_cell? _ _ hx293_0; first | rwa [add_block] at this | exact this) GW292.out); have hn293_2 : ad277.block ≠ gb292 := Nat.ne_of_lt (Nat.lt_of_lt_of_le (by have := World.block_lt_of_cell? _ _ hx293_0; first | rwa [add_block] at this | exact this) GW292.out); have hn293_3 : ad277.block ≠ gb292 := Nat.ne_of_lt (Nat.lt_of_lt_of_le (by have := World.block_lt_of_cell? _ _ hx293_0; first | rwa [add_block] at this | exact this) GW292.out); have hn293_4 : ad277.block ≠ gb292 := Nat.ne_of_lt (Nat.lt_of_lt_of_le (by have := World.block_lt_of_cell? _ _ hx293_0; first | rwa [add_block] at this | exact this) GW292.out); replace hx293_0 := (HB.out.cell (World.block_lt_of_cell? w _ hx293_0)).trans hx293_0; replace hx293_1 := (HB.out.cell (World.block_lt_of_cell? w _ hx293_1)).trans hx293_1; replace hx293_2 := (HB.out.cell (World.block_lt_of_cell? w _ hx293_2)).trans hx293_2; replace hx293_3 := (HB.out.cell (World.block_lt_of_cell? w _ hx293_3)).trans hx293_3; replace hx293_4 := (HB.out.cell (World.block_lt_of_cell? w _ hx293_4)).trans hx293_4; replace hx293_5 := (HB.out.cell (World.block_lt_of_cell? w _ hx293_5)).trans hx293_5; replace hx293_0 := (cell_far (p := ⟨gb292, 0, none⟩) (by first | (rw [add_block]; exact hn293_0) | (show (Addr.add _ _).block ≠ _; rw [add_block]; exact hn293_0) | exact hn293_0) (.string ((rd_T50 l0 x9_1).f0))).trans hx293_0; replace hx293_1 := (cell_far (p := ⟨gb292, 0, none⟩) (by first | (rw [add_block]; exact hn293_0) | (show (Addr.add _ _).block ≠ _; rw [add_block]; exact hn293_0) | exact hn293_0) (.string ((rd_T50 l0 x9_1).f0))).trans hx293_1; replace hx293_2 := (cell_far (p := ⟨gb292, 0, none⟩) (by first | (rw [add_block]; exact hn293_0) | (show (Addr.add _ _).block ≠ _; rw [add_block]; exact hn293_0) | exact hn293_0) (.string ((rd_T50 l0 x9_1).f0))).trans hx293_2; replace hx293_3 := (cell_far (p := ⟨gb292, 0, none⟩) (by first | (rw [add_block]; exact hn293_0) | (show (Addr.add _ _).block ≠ _; rw [add_block]; exact hn293_0) | exact hn293_0) (.string ((rd_T50 l0 x9_1).f0))).trans hx293_3; replace hx293_4 := (cell_far (p := ⟨gb292, 0, none⟩) (by first | (rw [add_block]; exact hn293_0) | (show (Addr.add _ _).block ≠ _; rw [add_block]; exact hn293_0) | exact hn293_0) (.string ((rd_T50 l0 x9_1).f0))).trans hx293_4; replace hx293_5 := (cell_far (p := ⟨gb292, 0, none⟩) (by first | (rw [add_block]; exact hn293_0) | (show (Addr.add _ _).block ≠ _; rw [add_block]; exact hn293_0) | exact hn293_0) (.string ((rd_T50 l0 x9_1).f0))).trans hx293_5; replace hx293_0 := (cell_far (p := ⟨gb292, 1, none⟩) (by first | (rw [add_block]; exact hn293_1) | (show (Addr.add _ _).block ≠ _; rw [add_block]; exact hn293_1) | exact hn293_1) (.int .i64 ((rd_T50 l0 x9_1).f1))).trans hx293_0; replace hx293_1 := (cell_far (p := ⟨gb292, 1, none⟩) (by first | (rw [add_block]; exact hn293_1) | (show (Addr.add _ _).block ≠ _; rw [add_block]; exact hn293_1) | exact hn293_1) (.int .i64 ((rd_T50 l0 x9_1).f1))).trans hx293_1; replace hx293_2 := (cell_far (p := ⟨gb292, 1, none⟩) (by first | (rw [add_block]; exact hn293_1) | (show (Addr.add _ _).block ≠ _; rw [add_block]; exact hn293_1) | exact hn293_1) (.int .i64 ((rd_T50 l0 x9_1).f1))).trans hx293_2; replace hx293_3 := (cell_far (p := ⟨gb292, 1, none⟩) (by first | (rw [add_block]; exact hn293_1) | (show (Addr.add _ _).block ≠ _; rw [add_block]; exact hn293_1) | exact hn293_1) (.int .i64 ((rd_T50 l0 x9_1).f1))).trans hx293_3; replace hx293_4 := (cell_far (p := ⟨gb292, 1, none⟩) (by first | (rw [add_block]; exact hn293_1) | (show (Addr.add _ _).block ≠ _; rw [add_block]; exact hn293_1) | exact hn293_1) (.int .i64 ((rd_T50 l0 x9_1).f1))).trans hx293_4; replace hx293_5 := (cell_far (p := ⟨gb292, 1, none⟩) (by first | (rw [add_block]; exact hn293_1) | (show (Addr.add _ _).block ≠ _; rw [add_block]; exact hn293_1) | exact hn293_1) (.int .i64 ((rd_T50 l0 x9_1).f1))).trans hx293_5; replace hx293_0 := (cell_far (p := ⟨gb292, 2, none⟩) (by first | (rw [add_block]; exact hn293_2) | (show (Addr.add _ _).block ≠ _; rw [add_block]; exact hn293_2) | exact hn293_2) (.bool ((rd_T50 l0 x9_1).f2))).trans hx293_0; replace hx293_1 := (cell_far (p := ⟨gb292, 2, none⟩) (by first | (rw [add_block]; exact hn293_2) | (show (Addr.add _ _).block ≠ _; rw [add_block]; exact hn293_2) | exact hn293_2) (.bool ((rd_T50 l0 x9_1).f2))).trans hx293_1; replace hx293_2 := (cell_far (p := ⟨gb292, 2, none⟩) (by first | (rw [add_block]; exact hn293_2) | (show (Addr.add _ _).block ≠ _; rw [add_block]; exact hn293_2) | exact hn293_2) (.bool ((rd_T50 l0 x9_1).f2))).trans hx293_2; replace hx293_3 := (cell_far (p := ⟨gb292, 2, none⟩) (by first | (rw [add_block]; exact hn293_2) | (show (Addr.add _ _).block ≠ _; rw [add_block]; exact hn293_2) | exact hn293_2) (.bool ((rd_T50 l0 x9_1).f2))).trans hx293_3; replace hx293_4 := (cell_far (p := ⟨gb292, 2, none⟩) (by first | (rw [add_block]; exact hn293_2) | (show (Addr.add _ _).block ≠ _; rw [add_block]; exact hn293_2) | exact hn293_2) (.bool ((rd_T50 l0 x9_1).f2))).trans hx293_4; replace hx293_5 := (cell_far (p := ⟨gb292, 2, none⟩) (by first | (rw [add_block]; exact hn293_2) | (show (Addr.add _ _).block ≠ _; rw [add_block]; exact hn293_2) | exact hn293_2) (.bool ((rd_T50 l0 x9_1).f2))).trans hx293_5; replace hx293_0 := (cell_far (p := ⟨gb292, 3, none⟩) (by first | (rw [add_block]; exact hn293_3) | (show (Addr.add _ _).block ≠ _; rw [add_block]; exact hn293_3) | exact hn293_3) (.bool ((rd_T50 l0 x9_1).f3))).trans hx293_0; replace hx293_1 := (cell_far (p := ⟨gb292, 3, none⟩) (by first | (rw [add_block]; exact hn293_3) | (show (Addr.add _ _).block ≠ _; rw [add_block]; exact hn293_3) | exact hn293_3) (.bool ((rd_T50 l0 x9_1).f3))).trans hx293_1; replace hx293_2 := (cell_far (p := ⟨gb292, 3, none⟩) (by first | (rw [add_block]; exact hn293_3) | (show (Addr.add _ _).block ≠ _; rw [add_block]; exact hn293_3) | exact hn293_3) (.bool ((rd_T50 l0 x9_1).f3))).trans hx293_2; replace hx293_3 := (cell_far (p := ⟨gb292, 3, none⟩) (by first | (rw [add_block]; exact hn293_3) | (show (Addr.add _ _).block ≠ _; rw [add_block]; exact hn293_3) | exact hn293_3) (.bool ((rd_T50 l0 x9_1).f3))).trans hx293_3; replace hx293_4 := (cell_far (p := ⟨gb292, 3, none⟩) (by first | (rw [add_block]; exact hn293_3) | (show (Addr.add _ _).block ≠ _; rw [add_block]; exact hn293_3) | exact hn293_3) (.bool ((rd_T50 l0 x9_1).f3))).trans hx293_4; replace hx293_5 := (cell_far (p := ⟨gb292, 3, none⟩) (by first | (rw [add_block]; exact hn293_3) | (show (Addr.add _ _).block ≠ _; rw [add_block]; exact hn293_3) | exact hn293_3) (.bool ((rd_T50 l0 x9_1).f3))).trans hx293_5; replace hx293_0 := (cell_far (p := ⟨gb292, 4, none⟩) (by first | (rw [add_block]; exact hn293_4) | (show (Addr.add _ _).block ≠ _; rw [add_block]; exact hn293_4) | exact hn293_4) (.bool ((rd_T50 l0 x9_1).f4))).trans hx293_0; replace hx293_1 := (cell_far (p := ⟨gb292, 4, none⟩) (by first | (rw [add_block]; exact hn293_4) | (show (Addr.add _ _).block ≠ _; rw [add_block]; exact hn293_4) | exact hn293_4) (.bool ((rd_T50 l0 x9_1).f4))).trans hx293_1; replace hx293_2 := (cell_far (p := ⟨gb292, 4, none⟩) (by first | (rw [add_block]; exact hn293_4) | (show (Addr.add _ _).block ≠ _; rw [add_block]; exact hn293_4) | exact hn293_4) (.bool ((rd_T50 l0 x9_1).f4))).trans hx293_2; replace hx293_3 := (cell_far (p := ⟨gb292, 4, none⟩) (by first | (rw [add_block]; exact hn293_4) | (show (Addr.add _ _).block ≠ _; rw [add_block]; exact hn293_4) | exact hn293_4) (.bool ((rd_T50 l0 x9_1).f4))).trans hx293_3; replace hx293_4 := (cell_far (p := ⟨gb292, 4, none⟩) (by first | (rw [add_block]; exact hn293_4) | (show (Addr.add _ _).block ≠ _; rw [add_block]; exact hn293_4) | exact hn293_4) (.bool ((rd_T50 l0 x9_1).f4))).trans hx293_4; replace hx293_5 := (cell_far (p := ⟨gb292, 4, none⟩) (by first | (rw [add_block]; exact hn293_4) | (show (Addr.add _ _).block ≠ _; rw [add_block]; exact hn293_4) | exact hn293_4) (.bool ((rd_T50 l0 x9_1).f4))).trans hx293_5; clear hn293_0; clear hn293_1; clear hn293_2; clear hn293_3; clear hn293_4; replace p293 := eq_true p293; replace q293 := eq_true q293))
    have n0_ : Aside0 (Kd.R k50 50 (((((w65.setCell ⟨gb292, 0, none⟩ (.string ((rd_T50 l0 x9_1).f0))).setCell ⟨gb292, 1, none⟩ (.int .i64 ((rd_T50 l0 x9_1).f1))).setCell ⟨gb292, 2, none⟩ (.bool ((rd_T50 l0 x9_1).f2))).setCell ⟨gb292, 3, none⟩ (.bool ((rd_T50 l0 x9_1).f3))).setCell ⟨gb292, 4, none⟩ (.bool ((rd_T50 l0 x9_1).f4))) w.heap.size (fun k_ => k_ ≠ gb292) u7 x7_1) := ⟨by (with_reducible repeat (first | apply Kd.rA | apply Kd.rN | apply Kd.rD)); exact Kd.R_mono (Kd.R_far (p := ⟨gb292, 4, none⟩) (Kd.R_far (p := ⟨gb292, 3, none⟩) (Kd.R_far (p := ⟨gb292, 2, none⟩) (Kd.R_far (p := ⟨gb292, 1, none⟩) (Kd.R_far (p := ⟨gb292, 0, none⟩) (Kd.R_mono HO_7.out (fun k_ hk => (⟨hk, hk.2⟩ : _ ∧ k_ ≠ gb292))) (fun _ hk => hk.2) (.string ((rd_T50 l0 x9_1).f0))) (fun _ hk => hk.2) (.int .i64 ((rd_T50 l0 x9_1).f1))) (fun _ hk => hk.2) (.bool ((rd_T50 l0 x9_1).f2))) (fun _ hk => hk.2) (.bool ((rd_T50 l0 x9_1).f3))) (fun _ hk => hk.2) (.bool ((rd_T50 l0 x9_1).f4))) (fun _ hk => hk.1.2)⟩
    have n1_ : Aside0 (Kd.R k58 58 (((((w65.setCell ⟨gb292, 0, none⟩ (.string ((rd_T50 l0 x9_1).f0))).setCell ⟨gb292, 1, none⟩ (.int .i64 ((rd_T50 l0 x9_1).f1))).setCell ⟨gb292, 2, none⟩ (.bool ((rd_T50 l0 x9_1).f2))).setCell ⟨gb292, 3, none⟩ (.bool ((rd_T50 l0 x9_1).f3))).setCell ⟨gb292, 4, none⟩ (.bool ((rd_T50 l0 x9_1).f4))) w.heap.size (fun _ => True) u8 x8_1) := ⟨by (with_reducible repeat (first | apply Kd.rA | apply Kd.rN | apply Kd.rD)); exact Kd.R_mono (Kd.R_far (p := ⟨gb292, 4, none⟩) (Kd.R_far (p := ⟨gb292, 3, none⟩) (Kd.R_far (p := ⟨gb292, 2, none⟩) (Kd.R_far (p := ⟨gb292, 1, none⟩) (Kd.R_far (p := ⟨gb292, 0, none⟩) (Kd.R_types HO_8.out BK292.out (by decide)) (fun _ hk => hk.2) (.string ((rd_T50 l0 x9_1).f0))) (fun _ hk => hk.2) (.int .i64 ((rd_T50 l0 x9_1).f1))) (fun _ hk => hk.2) (.bool ((rd_T50 l0 x9_1).f2))) (fun _ hk => hk.2) (.bool ((rd_T50 l0 x9_1).f3))) (fun _ hk => hk.2) (.bool ((rd_T50 l0 x9_1).f4))) (fun _ hk => trivial)⟩
    have n2_ : Aside0 ((((((w65.setCell ⟨gb292, 0, none⟩ (.string ((rd_T50 l0 x9_1).f0))).setCell ⟨gb292, 1, none⟩ (.int .i64 ((rd_T50 l0 x9_1).f1))).setCell ⟨gb292, 2, none⟩ (.bool ((rd_T50 l0 x9_1).f2))).setCell ⟨gb292, 3, none⟩ (.bool ((rd_T50 l0 x9_1).f3))).setCell ⟨gb292, 4, none⟩ (.bool ((rd_T50 l0 x9_1).f4))).heap[gb292]? = some (.cells #[.string ((rd_T50 l0 x9_1).f0), .int .i64 ((rd_T50 l0 x9_1).f1), .bool ((rd_T50 l0 x9_1).f2), .bool ((rd_T50 l0 x9_1).f3), .bool ((rd_T50 l0 x9_1).f4)] 50 (0, 0))) := ⟨by (with_reducible repeat (first | refine blk_drewN ?_ _ | refine blk_drew ?_ | refine blk_alloc ?_ _)); refine blk_put (cs := #[.string ((rd_T50 l0 x9_1).f0), .int .i64 ((rd_T50 l0 x9_1).f1), .bool ((rd_T50 l0 x9_1).f2), .bool ((rd_T50 l0 x9_1).f3), .bool false]) ?_ 4 _ rfl; (with_reducible repeat (first | refine blk_drewN ?_ _ | refine blk_drew ?_ | refine blk_alloc ?_ _)); refine blk_put (cs := #[.string ((rd_T50 l0 x9_1).f0), .int .i64 ((rd_T50 l0 x9_1).f1), .bool ((rd_T50 l0 x9_1).f2), .bool false, .bool false]) ?_ 3 _ rfl; (with_reducible repeat (first | refine blk_drewN ?_ _ | refine blk_drew ?_ | refine blk_alloc ?_ _)); refine blk_put (cs := #[.string ((rd_T50 l0 x9_1).f0), .int .i64 ((rd_T50 l0 x9_1).f1), .bool false, .bool false, .bool false]) ?_ 2 _ rfl; (with_reducible repeat (first | refine blk_drewN ?_ _ | refine blk_drew ?_ | refine blk_alloc ?_ _)); refine blk_put (cs := #[.string ((rd_T50 l0 x9_1).f0), .int .i64 0, .bool false, .bool false, .bool false]) ?_ 1 _ rfl; (with_reducible repeat (first | refine blk_drewN ?_ _ | refine blk_drew ?_ | refine blk_alloc ?_ _)); refine blk_put (cs := #[.string (⟨#[]⟩ : ByteArray), .int .i64 0, .bool false, .bool false, .bool false]) ?_ 0 _ rfl; (with_reducible repeat (first | refine blk_drewN ?_ _ | refine blk_drew ?_ | refine blk_alloc ?_ _)); exact BK292.out⟩
    have n3_ : Aside0 (Below w.heap.size w (((((w65.setCell ⟨gb292, 0, none⟩ (.string ((rd_T50 l0 x9_1).f0))).setCell ⟨gb292, 1, none⟩ (.int .i64 ((rd_T50 l0 x9_1).f1))).setCell ⟨gb292, 2, none⟩ (.bool ((rd_T50 l0 x9_1).f2))).setCell ⟨gb292, 3, none⟩ (.bool ((rd_T50 l0 x9_1).f3))).setCell ⟨gb292, 4, none⟩ (.bool ((rd_T50 l0 x9_1).f4)))) := ⟨by repeat (first | (with_reducible first | exact HB.out | apply bA | apply bN | apply bD | refine below_set ?_ GE292.out) | exact HB.out)⟩
    (try clear HO_7)
    (try clear HO_8)
    (try clear BK292)
    (try clear HB)
    generalize (((((w65.setCell ⟨gb292, 0, none⟩ (.string ((rd_T50 l0 x9_1).f0))).setCell ⟨gb292, 1, none⟩ (.int .i64 ((rd_T50 l0 x9_1).f1))).setCell ⟨gb292, 2, none⟩ (.bool ((rd_T50 l0 x9_1).f2))).setCell ⟨gb292, 3, none⟩ (.bool ((rd_T50 l0 x9_1).f3))).setCell ⟨gb292, 4, none⟩ (.bool ((rd_T50 l0 x9_1).f4))) = w67 at n0_ n1_ n2_ n3_ ⊢
    have HO_7 := n0_
    have HO_8 := n1_
    have BK292 := n2_
    have HB := n3_
    clear n0_ n1_ n2_ n3_
    have n0_ := Aside0.mk (Kd.R_drew HO_7.out)
    have n1_ := Aside0.mk (Kd.R_drew HO_8.out)
    have n2_ := Aside0.mk (blk_drew BK292.out)
    have n3_ := Aside0.mk (below_drew1 HB.out)
    clear HO_7
    clear HO_8
    clear BK292
    clear HB
    have HO_7 := n0_
    have HO_8 := n1_
    have BK292 := n2_
    have HB := n3_
    clear n0_ n1_ n2_ n3_
    have p312 : 0 ≤ (x10_1 : Int) := of_decide_eq_true (by first | (with_reducible assumption) | assumption)
    have q312 : x10_1 < (l1.length : Int) := of_decide_eq_true (by first | (with_reducible assumption) | assumption)
    obtain ⟨ad312, e312, hx312_0, hx312_1, hx312_2, hx312_3, hx312_4, hx312_5⟩ := at_T58 HR1.out x10_1 p312 q312
    have hw312_5 := hx312_5
    have hw312_4 := hx312_4
    have hw312_3 := hx312_3
    have hw312_2 := hx312_2
    have hw312_1 := hx312_1
    have hw312_0 := hx312_0
    obtain rfl : ad277 = ad312 := (by injection e312)
    replace hx312_0 := (HB.out.cell (World.block_lt_of_cell? w _ hx312_0)).trans hx312_0
    replace hx312_1 := (HB.out.cell (World.block_lt_of_cell? w _ hx312_1)).trans hx312_1
    replace hx312_2 := (HB.out.cell (World.block_lt_of_cell? w _ hx312_2)).trans hx312_2
    replace hx312_3 := (HB.out.cell (World.block_lt_of_cell? w _ hx312_3)).trans hx312_3
    replace hx312_4 := (HB.out.cell (World.block_lt_of_cell? w _ hx312_4)).trans hx312_4
    replace hx312_5 := (HB.out.cell (World.block_lt_of_cell? w _ hx312_5)).trans hx312_5
    replace p312 := eq_true p312
    replace q312 := eq_true q312
    have p314 : 0 ≤ (x10_1 : Int) := of_decide_eq_true (by first | (with_reducible assumption) | assumption)
    have q314 : x10_1 < (l1.length : Int) := of_decide_eq_true (by first | (with_reducible assumption) | assumption)
    obtain ⟨ad314, e314, hx314_0, hx314_1, hx314_2, hx314_3, hx314_4, hx314_5⟩ := at_T58 HR1.out x10_1 p314 q314
    have hw314_5 := hx314_5
    have hw314_4 := hx314_4
    have hw314_3 := hx314_3
    have hw314_2 := hx314_2
    have hw314_1 := hx314_1
    have hw314_0 := hx314_0
    obtain rfl : ad277 = ad314 := (by injection e314)
    replace hx314_0 := (HB.out.cell (World.block_lt_of_cell? w _ hx314_0)).trans hx314_0
    replace hx314_1 := (HB.out.cell (World.block_lt_of_cell? w _ hx314_1)).trans hx314_1
    replace hx314_2 := (HB.out.cell (World.block_lt_of_cell? w _ hx314_2)).trans hx314_2
    replace hx314_3 := (HB.out.cell (World.block_lt_of_cell? w _ hx314_3)).trans hx314_3
    replace hx314_4 := (HB.out.cell (World.block_lt_of_cell? w _ hx314_4)).trans hx314_4
    replace hx314_5 := (HB.out.cell (World.block_lt_of_cell? w _ hx314_5)).trans hx314_5
    replace p314 := eq_true p314
    replace q314 := eq_true q314
    refine start_ (n := 13) (S := fun w' => w'.cell? ⟨gb292, 0, none⟩ = some (.string ((rd_T50 l0 x9_1).f0)) ∧ w'.cell? ⟨gb292, 1, none⟩ = some (.int .i64 ((rd_T50 l0 x9_1).f1)) ∧ w'.cell? ⟨gb292, 2, none⟩ = some (.bool ((rd_T50 l0 x9_1).f2)) ∧ w'.cell? ⟨gb292, 3, none⟩ = some (.bool ((rd_T50 l0 x9_1).f3)) ∧ w'.cell? ⟨gb292, 4, none⟩ = some (.bool ((rd_T50 l0 x9_1).f4)) ∧ w'.cell? (ad277.add ((x10_1).toNat * 6)) = some (.int .i64 ((rd_T58 l1 x10_1).f0)) ∧ w'.cell? ⟨(ad277.add ((x10_1).toNat * 6)).block, (ad277.add ((x10_1).toNat * 6)).off + 1, none⟩ = some (.string ((rd_T58 l1 x10_1).f1.f0)) ∧ w'.cell? ⟨(ad277.add ((x10_1).toNat * 6)).block, (ad277.add ((x10_1).toNat * 6)).off + 2, none⟩ = some (.int .i64 ((rd_T58 l1 x10_1).f1.f1)) ∧ w'.cell? ⟨(ad277.add ((x10_1).toNat * 6)).block, (ad277.add ((x10_1).toNat * 6)).off + 3, none⟩ = some (.bool ((rd_T58 l1 x10_1).f1.f2)) ∧ w'.cell? ⟨(ad277.add ((x10_1).toNat * 6)).block, (ad277.add ((x10_1).toNat * 6)).off + 4, none⟩ = some (.bool ((rd_T58 l1 x10_1).f1.f3)) ∧ w'.cell? ⟨(ad277.add ((x10_1).toNat * 6)).block, (ad277.add ((x10_1).toNat * 6)).off + 5, none⟩ = some (.bool ((rd_T58 l1 x10_1).f1.f4)) ∧ w'.cell? (ad277.add ((x10_1).toNat * 6)) = some (.int .i64 ((rd_T58 l1 x10_1).f0)) ∧ w'.cell? ⟨(ad277.add ((x10_1).toNat * 6)).block, (ad277.add ((x10_1).toNat * 6)).off + 1, none⟩ = some (.string ((rd_T58 l1 x10_1).f1.f0)) ∧ w'.cell? ⟨(ad277.add ((x10_1).toNat * 6)).block, (ad277.add ((x10_1).toNat * 6)).off + 2, none⟩ = some (.int .i64 ((rd_T58 l1 x10_1).f1.f1)) ∧ w'.cell? ⟨(ad277.add ((x10_1).toNat * 6)).block, (ad277.add ((x10_1).toNat * 6)).off + 3, none⟩ = some (.bool ((rd_T58 l1 x10_1).f1.f2)) ∧ w'.cell? ⟨(ad277.add ((x10_1).toNat * 6)).block, (ad277.add ((x10_1).toNat * 6)).off + 4, none⟩ = some (.bool ((rd_T58 l1 x10_1).f1.f3)) ∧ w'.cell? ⟨(ad277.add ((x10_1).toNat * 6)).block, (ad277.add ((x10_1).toNat * 6)).off + 5, none⟩ = some (.bool ((rd_T58 l1 x10_1).f1.f4))) (ds := []) #[false, false, false, false, false, false, false, false, false, false, false, false, false] (by kernel_rfl) rfl rfl ⟨(blk_cell BK292.out 0).trans rfl, (blk_cell BK292.out 1).trans rfl, (blk_cell BK292.out 2).trans rfl, (blk_cell BK292.out 3).trans rfl, (blk_cell BK292.out 4).trans rfl, ((HB.out.cell (World.block_lt_of_cell? w _ hw312_0)).trans hw312_0), ((HB.out.cell (World.block_lt_of_cell? w _ hw312_1)).trans hw312_1), ((HB.out.cell (World.block_lt_of_cell? w _ hw312_2)).trans hw312_2), ((HB.out.cell (World.block_lt_of_cell? w _ hw312_3)).trans hw312_3), ((HB.out.cell (World.block_lt_of_cell? w _ hw312_4)).trans hw312_4), ((HB.out.cell (World.block_lt_of_cell? w _ hw312_5)).trans hw312_5), ((HB.out.cell (World.block_lt_of_cell? w _ hw314_0)).trans hw314_0), ((HB.out.cell (World.block_lt_of_cell? w _ hw314_1)).trans hw314_1), ((HB.out.cell (World.block_lt_of_cell? w _ hw314_2)).trans hw314_2), ((HB.out.cell (World.block_lt_of_cell? w _ hw314_3)).trans hw314_3), ((HB.out.cell (World.block_lt_of_cell? w _ hw314_4)).trans hw314_4), ((HB.out.cell (World.block_lt_of_cell? w _ hw314_5)).trans hw314_5)⟩ (fun hHeld => ?_); refine with_tabW salchowref25_apply.tab13 salchowref25_apply.bits13 (fun HT_ HW_ => ?_)
    generalize w67.drew = w68 at HO_7 HO_8 BK292 HB hx312_0 hx312_1 hx312_2 hx312_3 hx312_4 hx312_5 hx314_0 hx314_1 hx314_2 hx314_3 hx314_4 hx314_5 hHeld ⊢
    refine pure_ (i := 1) (N := some 54) (v := ?_) (a' := ?_) #[false, true, false, false, false, false, false, false, false, false, false, false, false] rfl rfl (any_of HT_.out (by kernel_rfl)) (fun _ _ _ h => h) (Or.inl ⟨by rfl, ?_⟩) ?_ ?_
    rotate_left
    ·intro w'
     go_simp
     with_reducible rfl
    rotate_left
    ·simp only [Act.put, sA, sZ, sS, i64_w, i32_w]
     rfl
    refine pure_ (i := 2) (N := some 55) (v := ?_) (a' := ?_) #[false, true, true, false, false, false, false, false, false, false, false, false, false] rfl rfl (any_of HT_.out (by kernel_rfl)) (fun _ _ _ h => h) (Or.inl ⟨by rfl, ?_⟩) ?_ ?_
    rotate_left
    ·intro w'
     go_simp
     with_reducible rfl
    rotate_left
    ·simp only [Act.put, sA, sZ, sS, i64_w, i32_w]
     rfl
    refine pure_ (i := 3) (N := some 56) (v := ?_) (a' := ?_) #[false, true, true, true, false, false, false, false, false, false, false, false, false] rfl rfl (any_of HT_.out (by kernel_rfl)) (fun _ _ _ h => h) (Or.inl ⟨by rfl, ?_⟩) ?_ ?_
    rotate_left
    ·intro w'
     go_simp
     with_reducible rfl
    rotate_left
    ·simp only [Act.put, sA, sZ, sS, i64_w, i32_w]
     rfl
    refine pure_ (i := 4) (N := some 57) (v := ?_) (a' := ?_) #[false, true, true, true, true, false, false, false, false, false, false, false, false] rfl rfl (any_of HT_.out (by kernel_rfl)) (fun _ _ _ h => h) (Or.inl ⟨by rfl, ?_⟩) ?_ ?_
    rotate_left
    ·intro w'
     go_simp
     with_reducible rfl
    rotate_left
    ·simp only [Act.put, sA, sZ, sS, i64_w, i32_w]
     rfl
    refine pure_ (i := 7) (N := some 60) (v := ?_) (a' := ?_) #[false, true, true, true, true, false, false, true, false, false, false, false, false] rfl rfl (any_of HT_.out (by kernel_rfl)) (fun _ _ _ h => h) (Or.inl ⟨by rfl, ?_⟩) ?_ ?_
    rotate_left
    ·intro w'
     go_simp
     with_reducible rfl
    rotate_left
    ·simp only [Act.put, sA, sZ, sS, i64_w, i32_w]
     rfl
    refine pure_ (i := 8) (N := some 61) (v := ?_) (a' := ?_) #[false, true, true, true, true, false, false, true, true, false, false, false, false] rfl rfl (any_of HT_.out (by kernel_rfl)) (fun _ _ _ h => h) (Or.inl ⟨by rfl, ?_⟩) ?_ ?_
    rotate_left
    ·intro w'
     go_simp
     with_reducible rfl
    rotate_left
    ·simp only [Act.put, sA, sZ, sS, i64_w, i32_w]
     rfl
    refine pure_ (i := 9) (N := some 62) (v := ?_) (a' := ?_) #[false, true, true, true, true, false, false, true, true, true, false, false, false] rfl rfl (any_of HT_.out (by kernel_rfl)) (fun _ _ _ h => h) (Or.inl ⟨by rfl, ?_⟩) ?_ ?_
    rotate_left
    ·intro w'
     go_simp
     with_reducible rfl
    rotate_left
    ·simp only [Act.put, sA, sZ, sS, i64_w, i32_w]
     rfl
    refine pure_ (i := 10) (N := some 63) (v := ?_) (a' := ?_) #[false, true, true, true, true, false, false, true, true, true, true, false, false] rfl rfl (any_of HT_.out (by kernel_rfl)) (fun _ _ _ h => h) (Or.inl ⟨by rfl, ?_⟩) ?_ ?_
    rotate_left
    ·intro w'
     go_simp
     with_reducible rfl
    rotate_left
    ·simp only [Act.put, sA, sZ, sS, i64_w, i32_w]
     rfl
    refine take_ (i := 0) (N := some 53) (v := ?_) (a' := ?_) #[true, true, true, true, true, false, false, true, true, true, true, false, false] rfl rfl (take_ofW HT_.out HW_.out (by kernel_rfl)) (fun _ _ _ h => h) (Or.inl ⟨by rfl, ?_⟩) hHeld ?_ ?_
    rotate_left
    ·rintro w' ⟨s0, s1, s2, s3, s4, s5, s6, s7, s8, s9, s10, s11, s12, s13, s14, s15, s16⟩
     go_simp
     with_reducible rfl
    rotate_left
    ·simp only [Act.put, sA, sZ, sS, i64_w, i32_w]
     rfl
    refine take_ (i := 5) (N := some 58) (v := ?_) (a' := ?_) #[true, true, true, true, true, true, false, true, true, true, true, false, false] rfl rfl (take_ofW HT_.out HW_.out (by kernel_rfl)) (fun _ _ _ h => h) (Or.inl ⟨by rfl, ?_⟩) hHeld ?_ ?_
    rotate_left
    ·rintro w' ⟨s0, s1, s2, s3, s4, s5, s6, s7, s8, s9, s10, s11, s12, s13, s14, s15, s16⟩
     go_simp
     with_reducible rfl
    rotate_left
    ·simp only [Act.put, sA, sZ, sS, i64_w, i32_w]
     rfl
    refine take_ (i := 11) (N := some 64) (v := ?_) (a' := ?_) #[true, true, true, true, true, true, false, true, true, true, true, true, false] rfl rfl (take_ofW HT_.out HW_.out (by kernel_rfl)) (fun _ _ _ h => h) (Or.inl ⟨by rfl, ?_⟩) hHeld ?_ ?_
    rotate_left
    ·rintro w' ⟨s0, s1, s2, s3, s4, s5, s6, s7, s8, s9, s10, s11, s12, s13, s14, s15, s16⟩
     go_simp
     with_reducible rfl
    rotate_left
    ·simp only [Act.put, sA, sZ, sS, i64_w, i32_w]
     rfl
    refine one_ (i := 6) (N := some 59) #[true, true, true, true, true, true, true, true, true, true, true, true, false] rfl rfl (one_of HT_.out (by kernel_rfl)) (by decide) (fun K hK => ?_)
    refine goes_ Try.func36 (by kernel_rfl) rfl #[.agg #[.string ((rd_T50 l0 x9_1).f0), .int .i64 ((rd_T50 l0 x9_1).f1), .bool ((rd_T50 l0 x9_1).f2), .bool ((rd_T50 l0 x9_1).f3), .bool ((rd_T50 l0 x9_1).f4)], .agg #[.string ((rd_T58 l1 x10_1).f1.f0), .int .i64 ((rd_T58 l1 x10_1).f1.f1), .bool ((rd_T58 l1 x10_1).f1.f2), .bool ((rd_T58 l1 x10_1).f1.f3), .bool ((rd_T58 l1 x10_1).f1.f4)]] (by rfl) rfl rfl (by (try simp only [List.map_toArray, List.map_cons, List.map_nil]); first | done | rfl | (simp only [List.length_drop, List.length_take]; rfl)) ?_
    with_reducible refine (salchowref25_Turn.calls ((rd_T50 l0 x9_1).f0) ((rd_T50 l0 x9_1).f1) ((rd_T50 l0 x9_1).f2) ((rd_T50 l0 x9_1).f3) ((rd_T50 l0 x9_1).f4) ((rd_T58 l1 x10_1).f1.f0) ((rd_T58 l1 x10_1).f1.f1) ((rd_T58 l1 x10_1).f1.f2) ((rd_T58 l1 x10_1).f1.f3) ((rd_T58 l1 x10_1).f1.f4) t313 _ A44.out).mono ?_
    rintro e w69 ⟨rfl, hb⟩
    refine ⟨_, rfl, ?_⟩
    have n0_ := Aside0.mk (Kd.R_below (by (with_reducible repeat (first | apply Kd.rA | apply Kd.rN | apply Kd.rD)); exact HO_7.out) hb)
    have n1_ := Aside0.mk (Kd.R_below (by (with_reducible repeat (first | apply Kd.rA | apply Kd.rN | apply Kd.rD)); exact HO_8.out) hb)
    have n2_ := Aside0.mk (blk_below (g := gb292) (o := .cells #[.string ((rd_T50 l0 x9_1).f0), .int .i64 ((rd_T50 l0 x9_1).f1), .bool ((rd_T50 l0 x9_1).f2), .bool ((rd_T50 l0 x9_1).f3), .bool ((rd_T50 l0 x9_1).f4)] 50 (0, 0)) (by (with_reducible repeat (first | refine blk_drewN ?_ _ | refine blk_drew ?_ | refine blk_alloc ?_ _)); exact BK292.out) hb)
    have n3_ := Aside0.mk (below_step (by repeat (first | (with_reducible first | exact HB.out | apply bA | apply bN | apply bD | refine below_set ?_ GE292.out) | exact HB.out)) hb)
    clear HO_7
    clear HO_8
    clear BK292
    clear HB
    have HO_7 := n0_
    have HO_8 := n1_
    have BK292 := n2_
    have HB := n3_
    clear n0_ n1_ n2_ n3_
    (try clear hb)
    (try clear hb2)
    (try clear hk)
    (try clear hi)
    refine hK.out _ _ ⟨(blk_cell BK292.out 0).trans rfl, (blk_cell BK292.out 1).trans rfl, (blk_cell BK292.out 2).trans rfl, (blk_cell BK292.out 3).trans rfl, (blk_cell BK292.out 4).trans rfl, ((HB.out.cell (World.block_lt_of_cell? w _ hw312_0)).trans hw312_0), ((HB.out.cell (World.block_lt_of_cell? w _ hw312_1)).trans hw312_1), ((HB.out.cell (World.block_lt_of_cell? w _ hw312_2)).trans hw312_2), ((HB.out.cell (World.block_lt_of_cell? w _ hw312_3)).trans hw312_3), ((HB.out.cell (World.block_lt_of_cell? w _ hw312_4)).trans hw312_4), ((HB.out.cell (World.block_lt_of_cell? w _ hw312_5)).trans hw312_5), ((HB.out.cell (World.block_lt_of_cell? w _ hw314_0)).trans hw314_0), ((HB.out.cell (World.block_lt_of_cell? w _ hw314_1)).trans hw314_1), ((HB.out.cell (World.block_lt_of_cell? w _ hw314_2)).trans hw314_2), ((HB.out.cell (World.block_lt_of_cell? w _ hw314_3)).trans hw314_3), ((HB.out.cell (World.block_lt_of_cell? w _ hw314_4)).trans hw314_4), ((HB.out.cell (World.block_lt_of_cell? w _ hw314_5)).trans hw314_5)⟩ (fun hHeld => ?_)
    clear hK K
    refine norm_ (a' := ?_) ?_ ?_
    rotate_left
    ·show Act.put _ (some 59) _ = _
     simp only [Act.put, sA, sZ, sS, i64_w, i32_w]
     rfl
    refine pure_ (i := 12) (N := some 65) (v := ?_) (a' := ?_) #[true, true, true, true, true, true, true, true, true, true, true, true, true] rfl rfl (any_of HT_.out (by kernel_rfl)) (fun _ _ _ h => h) (Or.inl ⟨by rfl, ?_⟩) ?_ ?_
    rotate_left
    ·intro w'
     go_simp
     with_reducible rfl
    rotate_left
    ·simp only [Act.put, sA, sZ, sS, i64_w, i32_w]
     rfl
    refine done_ (done_of HT_.out (by kernel_rfl)) ?_
    try go_wp2
    go_ret3
    exact ⟨_, _, by first | rfl | (simp [errW_none, errW_some] <;> rfl) | (simp [*, errW_none, errW_some] <;> rfl), by first | exact Kd.R_nil _ _ _ _ _ | exact Kd.N_nil _ _ _ _ _ | exact Kd.V_nil _ _ _ _ _ | exact Kd.Q_nil _ _ _ _ _ | exact Kd.S_nil _ _ _ _ _, by first | exact Kd.R_nil _ _ _ _ _ | exact Kd.N_nil _ _ _ _ _ | exact Kd.V_nil _ _ _ _ _ | exact Kd.Q_nil _ _ _ _ _ | exact Kd.S_nil _ _ _ _ _, by repeat (first | (with_reducible first | exact HB.out | apply bA | apply bN | apply bD | refine below_set ?_ GE292.out) | exact HB.out)⟩
   rw [if_pos c45] at H
   have c45b0 : (t313 == ((rd_T58 l1 x10_1).f0)) = true := beq_iff_eq.mpr c45
   have c45b1 : (t313 != ((rd_T58 l1 x10_1).f0)) = false := bne_eq_false_iff_eq.mpr c45
   clear c45
   obtain ⟨y316, hy316⟩ : ∃ y_ : List (S50), y_ = (([(⟨(rd_T58 l1 x10_1).f1.f0, (rd_T58 l1 x10_1).f1.f1, (rd_T58 l1 x10_1).f1.f2, (rd_T58 l1 x10_1).f1.f3, (rd_T58 l1 x10_1).f1.f4⟩ : S50)] : List (S50))) := ⟨_, rfl⟩
   replace H : (if x7_1.length + y316.length < 4398046511104 then ((some (([(⟨(rd_T58 l1 x10_1).f0, (⟨(rd_T50 l0 x9_1).f0, (rd_T50 l0 x9_1).f1, (rd_T50 l0 x9_1).f2, (rd_T50 l0 x9_1).f3, (rd_T50 l0 x9_1).f4⟩ : S50)⟩ : S58)] : List (S58)) : List (S58))).bind fun y323 => (if x8_1.length + y323.length < 3518437208883 then (salchowref25_apply.l0 k1 l0 l1 (x7_1 ++ y316) (x8_1 ++ y323) (wrap64 (x9_1 + 1)) (wrap64 (x10_1 + 1))) else (none))) else (none)) = some (r1, r2, r3) := by first | (rw [hy316]; with_reducible exact H) | (have H2_ := (Option.bind_some _ _).symm.trans H; rw [hy316]; with_reducible exact H2_) | (have H2_ := (Option.bind_some _ _).symm.trans H; with_reducible exact H2_) | with_reducible exact H | (rw [hy316]; exact H) | exact H
   have Ny316 := Aside0.mk hy316
   clear hy316
   by_cases c46 : x7_1.length + y316.length < 4398046511104
   rotate_left
   ·rw [if_neg c46] at H
    exact absurd H (by simp)
   rw [if_pos c46] at H
   have LMc46 := Aside0.mk c46
   clear c46
   obtain ⟨y319, hy319⟩ : ∃ y_ : List (S50), y_ = (x7_1 ++ y316) := ⟨_, rfl⟩
   replace H : ((some (([(⟨(rd_T58 l1 x10_1).f0, (⟨(rd_T50 l0 x9_1).f0, (rd_T50 l0 x9_1).f1, (rd_T50 l0 x9_1).f2, (rd_T50 l0 x9_1).f3, (rd_T50 l0 x9_1).f4⟩ : S50)⟩ : S58)] : List (S58)) : List (S58))).bind fun y323 => (if x8_1.length + y323.length < 3518437208883 then (salchowref25_apply.l0 k1 l0 l1 y319 (x8_1 ++ y323) (wrap64 (x9_1 + 1)) (wrap64 (x10_1 + 1))) else (none))) = some (r1, r2, r3) := by first | (rw [hy319]; with_reducible exact H) | (have H2_ := (Option.bind_some _ _).symm.trans H; rw [hy319]; with_reducible exact H2_) | (have H2_ := (Option.bind_some _ _).symm.trans H; with_reducible exact H2_) | with_reducible exact H | (rw [hy319]; exact H) | exact H
   have Ny319 := Aside0.mk hy319
   clear hy319
   obtain ⟨y323, hy323⟩ : ∃ y_ : List (S58), y_ = (([(⟨(rd_T58 l1 x10_1).f0, (⟨(rd_T50 l0 x9_1).f0, (rd_T50 l0 x9_1).f1, (rd_T50 l0 x9_1).f2, (rd_T50 l0 x9_1).f3, (rd_T50 l0 x9_1).f4⟩ : S50)⟩ : S58)] : List (S58))) := ⟨_, rfl⟩
   replace H : (if x8_1.length + y323.length < 3518437208883 then (salchowref25_apply.l0 k1 l0 l1 y319 (x8_1 ++ y323) (wrap64 (x9_1 + 1)) (wrap64 (x10_1 + 1))) else (none)) = some (r1, r2, r3) := by first | (rw [hy323]; with_reducible exact H) | (have H2_ := (Option.bind_some _ _).symm.trans H; rw [hy323]; with_reducible exact H2_) | (have H2_ := (Option.bind_some _ _).symm.trans H; with_reducible exact H2_) | with_reducible exact H | (rw [hy323]; exact H) | exact H
   have Ny323 := Aside0.mk hy323
   clear hy323
   by_cases c47 : x8_1.length + y323.length < 3518437208883
   rotate_left
   ·rw [if_neg c47] at H
    exact absurd H (by simp)
   rw [if_pos c47] at H
   have LMc47 := Aside0.mk c47
   clear c47
   obtain ⟨y326, hy326⟩ : ∃ y_ : List (S58), y_ = (x8_1 ++ y323) := ⟨_, rfl⟩
   replace H : (salchowref25_apply.l0 k1 l0 l1 y319 y326 (wrap64 (x9_1 + 1)) (wrap64 (x10_1 + 1))) = some (r1, r2, r3) := by first | (rw [hy326]; with_reducible exact H) | (have H2_ := (Option.bind_some _ _).symm.trans H; rw [hy326]; with_reducible exact H2_) | (have H2_ := (Option.bind_some _ _).symm.trans H; with_reducible exact H2_) | with_reducible exact H | (rw [hy326]; exact H) | exact H
   have Ny326 := Aside0.mk hy326
   clear hy326
   have H' := Aside0.mk H
   clear H
   have p277 : 0 ≤ (x10_1 : Int) := of_decide_eq_true (by first | (with_reducible assumption) | assumption)
   have q277 : x10_1 < (l1.length : Int) := of_decide_eq_true (by first | (with_reducible assumption) | assumption)
   obtain ⟨ad277, e277, hx277_0, hx277_1, hx277_2, hx277_3, hx277_4, hx277_5⟩ := at_T58 HR1.out x10_1 p277 q277
   cases e277
   replace hx277_0 := (HB.out.cell (World.block_lt_of_cell? w _ hx277_0)).trans hx277_0
   replace hx277_1 := (HB.out.cell (World.block_lt_of_cell? w _ hx277_1)).trans hx277_1
   replace hx277_2 := (HB.out.cell (World.block_lt_of_cell? w _ hx277_2)).trans hx277_2
   replace hx277_3 := (HB.out.cell (World.block_lt_of_cell? w _ hx277_3)).trans hx277_3
   replace hx277_4 := (HB.out.cell (World.block_lt_of_cell? w _ hx277_4)).trans hx277_4
   replace hx277_5 := (HB.out.cell (World.block_lt_of_cell? w _ hx277_5)).trans hx277_5
   replace p277 := eq_true p277
   replace q277 := eq_true q277
   have p291 : 0 ≤ (x9_1 : Int) := of_decide_eq_true (by first | (with_reducible assumption) | assumption)
   have q291 : x9_1 < (l0.length : Int) := of_decide_eq_true (by first | (with_reducible assumption) | assumption)
   obtain ⟨ad291, e291, hx291_0, hx291_1, hx291_2, hx291_3, hx291_4⟩ := at_T50 HR0.out x9_1 p291 q291
   cases e291
   replace hx291_0 := (HB.out.cell (World.block_lt_of_cell? w _ hx291_0)).trans hx291_0
   replace hx291_1 := (HB.out.cell (World.block_lt_of_cell? w _ hx291_1)).trans hx291_1
   replace hx291_2 := (HB.out.cell (World.block_lt_of_cell? w _ hx291_2)).trans hx291_2
   replace hx291_3 := (HB.out.cell (World.block_lt_of_cell? w _ hx291_3)).trans hx291_3
   replace hx291_4 := (HB.out.cell (World.block_lt_of_cell? w _ hx291_4)).trans hx291_4
   replace p291 := eq_true p291
   replace q291 := eq_true q291
   try go_wp2_with (first | ((with_reducible refine gate_dst (N := 11) rfl ?_); refine box_event ?hg (N := 11) ?hd (cs := #[.string (⟨#[]⟩ : ByteArray), .int .i64 0, .bool false, .bool false, .bool false]) (t := 50) ?hr ?_; (case hd => rfl); (case hg => rfl); (case hr => first | (go_simp; done) | (go_simp; rfl)); intro gb292 hg w48 hbox hb; have n0_ := Aside0.mk (Kd.R_below (Kd.R_elderB (by (with_reducible repeat (first | apply Kd.rA | apply Kd.rN | apply Kd.rD)); exact HO_7.out) gb292 (Nat.le_of_eq hg.symm)) hb); have n1_ := Aside0.mk (Kd.R_below (by (with_reducible repeat (first | apply Kd.rA | apply Kd.rN | apply Kd.rD)); exact HO_8.out) hb); have n2_ := Aside0.mk (below_step (by repeat (first | (with_reducible first | exact HB.out | apply bA | apply bN | apply bD) | exact HB.out)) hb); have n3_ := Aside0.mk (hbox); have n4_ := Aside0.mk ((by rw [hg]; exact (below_size (by repeat (first | (with_reducible first | exact HB.out | apply bA | apply bN | apply bD) | exact HB.out))) : w.heap.size ≤ gb292)); have n5_ := Aside0.mk ((by rw [hg]; exact (below_size (by repeat (first | (with_reducible first | exact HB.out | apply bA | apply bN | apply bD) | exact HB.out))) : w.heap.size ≤ gb292)); clear HO_7; clear HO_8; clear HB; have HO_7 := n0_; have HO_8 := n1_; have HB := n2_; have BK292 := n3_; have GW292 := n4_; have GE292 := n5_; clear n0_ n1_ n2_ n3_ n4_ n5_; clear hb hbox hg; have hcz49_0 : w48.cell? ⟨gb292, 0, none⟩ = some (.string (⟨#[]⟩ : ByteArray)) := (blk_cell BK292.out 0).trans rfl; have hcz49_1 : w48.cell? ⟨gb292, 1, none⟩ = some (.int .i64 0) := (blk_cell BK292.out 1).trans rfl; have hcz49_2 : w48.cell? ⟨gb292, 2, none⟩ = some (.bool false) := (blk_cell BK292.out 2).trans rfl; have hcz49_3 : w48.cell? ⟨gb292, 3, none⟩ = some (.bool false) := (blk_cell BK292.out 3).trans rfl; have hcz49_4 : w48.cell? ⟨gb292, 4, none⟩ = some (.bool false) := (blk_cell BK292.out 4).trans rfl; have hfz49_0 := blk_frozen BK292.out 0; have hfz49_1 := blk_frozen BK292.out 1; have hfz49_2 := blk_frozen BK292.out 2; have hfz49_3 := blk_frozen BK292.out 3; have hfz49_4 := blk_frozen BK292.out 4; have p293 : 0 ≤ (x10_1 : Int) := of_decide_eq_true (by first | (with_reducible assumption) | assumption); have q293 : x10_1 < (l1.length : Int) := of_decide_eq_true (by first | (with_reducible assumption) | assumption); obtain ⟨ad293, e293, hx293_0, hx293_1, hx293_2, hx293_3, hx293_4, hx293_5⟩ := at_T58 HR1.out x10_1 p293 q293; obtain rfl : ad277 = ad293 := (by injection e293); have hn293_0 : ad277.block ≠ gb292 := Nat.ne_of_lt (Nat.lt_of_lt_of_le (by have := World.block_lt_of_cell? _ _ hx293_0; first | rwa [add_block] at this | exact this) GW292.out); have hn293_1 : ad277.block ≠ gb292 := Nat.ne_of_lt (Nat.lt_of_lt_of_le (by have := World.block_lt_of_cell? _ _ hx293_0; first | rwa [add_block] at this | exact this) GW292.out); have hn293_2 : ad277.block ≠ gb292 := Nat.ne_of_lt (Nat.lt_of_lt_of_le (by have := World.block_lt_of_cell? _ _ hx293_0; first | rwa [add_block] at this | exact this) GW292.out); have hn293_3 : ad277.block ≠ gb292 := Nat.ne_of_lt (Nat.lt_of_lt_of_le (by have := World.block_lt_of_cell? _ _ hx293_0; first | rwa [add_block] at this | exact this) GW292.out); have hn293_4 : ad277.block ≠ gb292 := Nat.ne_of_lt (Nat.lt_of_lt_of_le (by have := World.block_lt_of_cell? _ _ hx293_0; first | rwa [add_block] at this | exact this) GW292.out); replace hx293_0 := (HB.out.cell (World.block_lt_of_cell? w _ hx293_0)).trans hx293_0; replace hx293_1 := (HB.out.cell (World.block_lt_of_cell? w _ hx293_1)).trans hx293_1; replace hx293_2 := (HB.out.cell (World.block_lt_of_cell? w _ hx293_2)).trans hx293_2; replace hx293_3 := (HB.out.cell (World.block_lt_of_cell? w _ hx293_3)).trans hx293_3; replace hx293_4 := (HB.out.cell (World.block_lt_of_cell? w _ hx293_4)).trans hx293_4; replace hx293_5 := (HB.out.cell (World.block_lt_of_cell? w _ hx293_5)).trans hx293_5; replace hx293_0 := (cell_far (p := ⟨gb292, 0, none⟩) (by first | (rw [add_block]; exact hn293_0) | (show (Addr.add _ _).block ≠ _; rw [add_block]; exact hn293_0) | exact hn293_0) (.string ((rd_T50 l0 x9_1).f0))).trans hx293_0; replace hx293_1 := (cell_far (p := ⟨gb292, 0, none⟩) (by first | (rw [add_block]; exact hn293_0) | (show (Addr.add _ _).block ≠ _; rw [add_block]; exact hn293_0) | exact hn293_0) (.string ((rd_T50 l0 x9_1).f0))).trans hx293_1; replace hx293_2 := (cell_far (p := ⟨gb292, 0, none⟩) (by first | (rw [add_block]; exact hn293_0) | (show (Addr.add _ _).block ≠ _; rw [add_block]; exact hn293_0) | exact hn293_0) (.string ((rd_T50 l0 x9_1).f0))).trans hx293_2; replace hx293_3 := (cell_far (p := ⟨gb292, 0, none⟩) (by first | (rw [add_block]; exact hn293_0) | (show (Addr.add _ _).block ≠ _; rw [add_block]; exact hn293_0) | exact hn293_0) (.string ((rd_T50 l0 x9_1).f0))).trans hx293_3; replace hx293_4 := (cell_far (p := ⟨gb292, 0, none⟩) (by first | (rw [add_block]; exact hn293_0) | (show (Addr.add _ _).block ≠ _; rw [add_block]; exact hn293_0) | exact hn293_0) (.string ((rd_T50 l0 x9_1).f0))).trans hx293_4; replace hx293_5 := (cell_far (p := ⟨gb292, 0, none⟩) (by first | (rw [add_block]; exact hn293_0) | (show (Addr.add _ _).block ≠ _; rw [add_block]; exact hn293_0) | exact hn293_0) (.string ((rd_T50 l0 x9_1).f0))).trans hx293_5; replace hx293_0 := (cell_far (p := ⟨gb292, 1, none⟩) (by first | (rw [add_block]; exact hn293_1) | (show (Addr.add _ _).block ≠ _; rw [add_block]; exact hn293_1) | exact hn293_1) (.int .i64 ((rd_T50 l0 x9_1).f1))).trans hx293_0; replace hx293_1 := (cell_far (p := ⟨gb292, 1, none⟩) (by first | (rw [add_block]; exact hn293_1) | (show (Addr.add _ _).block ≠ _; rw [add_block]; exact hn293_1) | exact hn293_1) (.int .i64 ((rd_T50 l0 x9_1).f1))).trans hx293_1; replace hx293_2 := (cell_far (p := ⟨gb292, 1, none⟩) (by first | (rw [add_block]; exact hn293_1) | (show (Addr.add _ _).block ≠ _; rw [add_block]; exact hn293_1) | exact hn293_1) (.int .i64 ((rd_T50 l0 x9_1).f1))).trans hx293_2; replace hx293_3 := (cell_far (p := ⟨gb292, 1, none⟩) (by first | (rw [add_block]; exact hn293_1) | (show (Addr.add _ _).block ≠ _; rw [add_block]; exact hn293_1) | exact hn293_1) (.int .i64 ((rd_T50 l0 x9_1).f1))).trans hx293_3; replace hx293_4 := (cell_far (p := ⟨gb292, 1, none⟩) (by first | (rw [add_block]; exact hn293_1) | (show (Addr.add _ _).block ≠ _; rw [add_block]; exact hn293_1) | exact hn293_1) (.int .i64 ((rd_T50 l0 x9_1).f1))).trans hx293_4; replace hx293_5 := (cell_far (p := ⟨gb292, 1, none⟩) (by first | (rw [add_block]; exact hn293_1) | (show (Addr.add _ _).block ≠ _; rw [add_block]; exact hn293_1) | exact hn293_1) (.int .i64 ((rd_T50 l0 x9_1).f1))).trans hx293_5; replace hx293_0 := (cell_far (p := ⟨gb292, 2, none⟩) (by first | (rw [add_block]; exact hn293_2) | (show (Addr.add _ _).block ≠ _; rw [add_block]; exact hn293_2) | exact hn293_2) (.bool ((rd_T50 l0 x9_1).f2))).trans hx293_0; replace hx293_1 := (cell_far (p := ⟨gb292, 2, none⟩) (by first | (rw [add_block]; exact hn293_2) | (show (Addr.add _ _).block ≠ _; rw [add_block]; exact hn293_2) | exact hn293_2) (.bool ((rd_T50 l0 x9_1).f2))).trans hx293_1; replace hx293_2 := (cell_far (p := ⟨gb292, 2, none⟩) (by first | (rw [add_block]; exact hn293_2) | (show (Addr.add _ _).block ≠ _; rw [add_block]; exact hn293_2) | exact hn293_2) (.bool ((rd_T50 l0 x9_1).f2))).trans hx293_2; replace hx293_3 := (cell_far (p := ⟨gb292, 2, none⟩) (by first | (rw [add_block]; exact hn293_2) | (show (Addr.add _ _).block ≠ _; rw [add_block]; exact hn293_2) | exact hn293_2) (.bool ((rd_T50 l0 x9_1).f2))).trans hx293_3; replace hx293_4 := (cell_far (p := ⟨gb292, 2, none⟩) (by first | (rw [add_block]; exact hn293_2) | (show (Addr.add _ _).block ≠ _; rw [add_block]; exact hn293_2) | exact hn293_2) (.bool ((rd_T50 l0 x9_1).f2))).trans hx293_4; replace hx293_5 := (cell_far (p := ⟨gb292, 2, none⟩) (by first | (rw [add_block]; exact hn293_2) | (show (Addr.add _ _).block ≠ _; rw [add_block]; exact hn293_2) | exact hn293_2) (.bool ((rd_T50 l0 x9_1).f2))).trans hx293_5; replace hx293_0 := (cell_far (p := ⟨gb292, 3, none⟩) (by first | (rw [add_block]; exact hn293_3) | (show (Addr.add _ _).block ≠ _; rw [add_block]; exact hn293_3) | exact hn293_3) (.bool ((rd_T50 l0 x9_1).f3))).trans hx293_0; replace hx293_1 := (cell_far (p := ⟨gb292, 3, none⟩) (by first | (rw [add_block]; exact hn293_3) | (show (Addr.add _ _).block ≠ _; rw [add_block]; exact hn293_3) | exact hn293_3) (.bool ((rd_T50 l0 x9_1).f3))).trans hx293_1; replace hx293_2 := (cell_far (p := ⟨gb292, 3, none⟩) (by first | (rw [add_block]; exact hn293_3) | (show (Addr.add _ _).block ≠ _; rw [add_block]; exact hn293_3) | exact hn293_3) (.bool ((rd_T50 l0 x9_1).f3))).trans hx293_2; replace hx293_3 := (cell_far (p := ⟨gb292, 3, none⟩) (by first | (rw [add_block]; exact hn293_3) | (show (Addr.add _ _).block ≠ _; rw [add_block]; exact hn293_3) | exact hn293_3) (.bool ((rd_T50 l0 x9_1).f3))).trans hx293_3; replace hx293_4 := (cell_far (p := ⟨gb292, 3, none⟩) (by first | (rw [add_block]; exact hn293_3) | (show (Addr.add _ _).block ≠ _; rw [add_block]; exact hn293_3) | exact hn293_3) (.bool ((rd_T50 l0 x9_1).f3))).trans hx293_4; replace hx293_5 := (cell_far (p := ⟨gb292, 3, none⟩) (by first | (rw [add_block]; exact hn293_3) | (show (Addr.add _ _).block ≠ _; rw [add_block]; exact hn293_3) | exact hn293_3) (.bool ((rd_T50 l0 x9_1).f3))).trans hx293_5; replace hx293_0 := (cell_far (p := ⟨gb292, 4, none⟩) (by first | (rw [add_block]; exact hn293_4) | (show (Addr.add _ _).block ≠ _; rw [add_block]; exact hn293_4) | exact hn293_4) (.bool ((rd_T50 l0 x9_1).f4))).trans hx293_0; replace hx293_1 := (cell_far (p := ⟨gb292, 4, none⟩) (by first | (rw [add_block]; exact hn293_4) | (show (Addr.add _ _).block ≠ _; rw [add_block]; exact hn293_4) | exact hn293_4) (.bool ((rd_T50 l0 x9_1).f4))).trans hx293_1; replace hx293_2 := (cell_far (p := ⟨gb292, 4, none⟩) (by first | (rw [add_block]; exact hn293_4) | (show (Addr.add _ _).block ≠ _; rw [add_block]; exact hn293_4) | exact hn293_4) (.bool ((rd_T50 l0 x9_1).f4))).trans hx293_2; replace hx293_3 := (cell_far (p := ⟨gb292, 4, none⟩) (by first | (rw [add_block]; exact hn293_4) | (show (Addr.add _ _).block ≠ _; rw [add_block]; exact hn293_4) | exact hn293_4) (.bool ((rd_T50 l0 x9_1).f4))).trans hx293_3; replace hx293_4 := (cell_far (p := ⟨gb292, 4, none⟩) (by first | (rw [add_block]; exact hn293_4) | (show (Addr.add _ _).block ≠ _; rw [add_block]; exact hn293_4) | exact hn293_4) (.bool ((rd_T50 l0 x9_1).f4))).trans hx293_4; replace hx293_5 := (cell_far (p := ⟨gb292, 4, none⟩) (by first | (rw [add_block]; exact hn293_4) | (show (Addr.add _ _).block ≠ _; rw [add_block]; exact hn293_4) | exact hn293_4) (.bool ((rd_T50 l0 x9_1).f4))).trans hx293_5; clear hn293_0; clear hn293_1; clear hn293_2; clear hn293_3; clear hn293_4; replace p293 := eq_true p293; replace q293 := eq_true q293))
   have n0_ : Aside0 (Kd.R k50 50 (((((w48.setCell ⟨gb292, 0, none⟩ (.string ((rd_T50 l0 x9_1).f0))).setCell ⟨gb292, 1, none⟩ (.int .i64 ((rd_T50 l0 x9_1).f1))).setCell ⟨gb292, 2, none⟩ (.bool ((rd_T50 l0 x9_1).f2))).setCell ⟨gb292, 3, none⟩ (.bool ((rd_T50 l0 x9_1).f3))).setCell ⟨gb292, 4, none⟩ (.bool ((rd_T50 l0 x9_1).f4))) w.heap.size (fun k_ => k_ ≠ gb292) u7 x7_1) := ⟨by (with_reducible repeat (first | apply Kd.rA | apply Kd.rN | apply Kd.rD)); exact Kd.R_mono (Kd.R_far (p := ⟨gb292, 4, none⟩) (Kd.R_far (p := ⟨gb292, 3, none⟩) (Kd.R_far (p := ⟨gb292, 2, none⟩) (Kd.R_far (p := ⟨gb292, 1, none⟩) (Kd.R_far (p := ⟨gb292, 0, none⟩) (Kd.R_mono HO_7.out (fun k_ hk => (⟨hk, hk.2⟩ : _ ∧ k_ ≠ gb292))) (fun _ hk => hk.2) (.string ((rd_T50 l0 x9_1).f0))) (fun _ hk => hk.2) (.int .i64 ((rd_T50 l0 x9_1).f1))) (fun _ hk => hk.2) (.bool ((rd_T50 l0 x9_1).f2))) (fun _ hk => hk.2) (.bool ((rd_T50 l0 x9_1).f3))) (fun _ hk => hk.2) (.bool ((rd_T50 l0 x9_1).f4))) (fun _ hk => hk.1.2)⟩
   have n1_ : Aside0 (Kd.R k58 58 (((((w48.setCell ⟨gb292, 0, none⟩ (.string ((rd_T50 l0 x9_1).f0))).setCell ⟨gb292, 1, none⟩ (.int .i64 ((rd_T50 l0 x9_1).f1))).setCell ⟨gb292, 2, none⟩ (.bool ((rd_T50 l0 x9_1).f2))).setCell ⟨gb292, 3, none⟩ (.bool ((rd_T50 l0 x9_1).f3))).setCell ⟨gb292, 4, none⟩ (.bool ((rd_T50 l0 x9_1).f4))) w.heap.size (fun _ => True) u8 x8_1) := ⟨by (with_reducible repeat (first | apply Kd.rA | apply Kd.rN | apply Kd.rD)); exact Kd.R_mono (Kd.R_far (p := ⟨gb292, 4, none⟩) (Kd.R_far (p := ⟨gb292, 3, none⟩) (Kd.R_far (p := ⟨gb292, 2, none⟩) (Kd.R_far (p := ⟨gb292, 1, none⟩) (Kd.R_far (p := ⟨gb292, 0, none⟩) (Kd.R_types HO_8.out BK292.out (by decide)) (fun _ hk => hk.2) (.string ((rd_T50 l0 x9_1).f0))) (fun _ hk => hk.2) (.int .i64 ((rd_T50 l0 x9_1).f1))) (fun _ hk => hk.2) (.bool ((rd_T50 l0 x9_1).f2))) (fun _ hk => hk.2) (.bool ((rd_T50 l0 x9_1).f3))) (fun _ hk => hk.2) (.bool ((rd_T50 l0 x9_1).f4))) (fun _ hk => trivial)⟩
   have n2_ : Aside0 ((((((w48.setCell ⟨gb292, 0, none⟩ (.string ((rd_T50 l0 x9_1).f0))).setCell ⟨gb292, 1, none⟩ (.int .i64 ((rd_T50 l0 x9_1).f1))).setCell ⟨gb292, 2, none⟩ (.bool ((rd_T50 l0 x9_1).f2))).setCell ⟨gb292, 3, none⟩ (.bool ((rd_T50 l0 x9_1).f3))).setCell ⟨gb292, 4, none⟩ (.bool ((rd_T50 l0 x9_1).f4))).heap[gb292]? = some (.cells #[.string ((rd_T50 l0 x9_1).f0), .int .i64 ((rd_T50 l0 x9_1).f1), .bool ((rd_T50 l0 x9_1).f2), .bool ((rd_T50 l0 x9_1).f3), .bool ((rd_T50 l0 x9_1).f4)] 50 (0, 0))) := ⟨by (with_reducible repeat (first | refine blk_drewN ?_ _ | refine blk_drew ?_ | refine blk_alloc ?_ _)); refine blk_put (cs := #[.string ((rd_T50 l0 x9_1).f0), .int .i64 ((rd_T50 l0 x9_1).f1), .bool ((rd_T50 l0 x9_1).f2), .bool ((rd_T50 l0 x9_1).f3), .bool false]) ?_ 4 _ rfl; (with_reducible repeat (first | refine blk_drewN ?_ _ | refine blk_drew ?_ | refine blk_alloc ?_ _)); refine blk_put (cs := #[.string ((rd_T50 l0 x9_1).f0), .int .i64 ((rd_T50 l0 x9_1).f1), .bool ((rd_T50 l0 x9_1).f2), .bool false, .bool false]) ?_ 3 _ rfl; (with_reducible repeat (first | refine blk_drewN ?_ _ | refine blk_drew ?_ | refine blk_alloc ?_ _)); refine blk_put (cs := #[.string ((rd_T50 l0 x9_1).f0), .int .i64 ((rd_T50 l0 x9_1).f1), .bool false, .bool false, .bool false]) ?_ 2 _ rfl; (with_reducible repeat (first | refine blk_drewN ?_ _ | refine blk_drew ?_ | refine blk_alloc ?_ _)); refine blk_put (cs := #[.string ((rd_T50 l0 x9_1).f0), .int .i64 0, .bool false, .bool false, .bool false]) ?_ 1 _ rfl; (with_reducible repeat (first | refine blk_drewN ?_ _ | refine blk_drew ?_ | refine blk_alloc ?_ _)); refine blk_put (cs := #[.string (⟨#[]⟩ : ByteArray), .int .i64 0, .bool false, .bool false, .bool false]) ?_ 0 _ rfl; (with_reducible repeat (first | refine blk_drewN ?_ _ | refine blk_drew ?_ | refine blk_alloc ?_ _)); exact BK292.out⟩
   have n3_ : Aside0 (Below w.heap.size w (((((w48.setCell ⟨gb292, 0, none⟩ (.string ((rd_T50 l0 x9_1).f0))).setCell ⟨gb292, 1, none⟩ (.int .i64 ((rd_T50 l0 x9_1).f1))).setCell ⟨gb292, 2, none⟩ (.bool ((rd_T50 l0 x9_1).f2))).setCell ⟨gb292, 3, none⟩ (.bool ((rd_T50 l0 x9_1).f3))).setCell ⟨gb292, 4, none⟩ (.bool ((rd_T50 l0 x9_1).f4)))) := ⟨by repeat (first | (with_reducible first | exact HB.out | apply bA | apply bN | apply bD | refine below_set ?_ GE292.out) | exact HB.out)⟩
   (try clear HO_7)
   (try clear HO_8)
   (try clear BK292)
   (try clear HB)
   generalize (((((w48.setCell ⟨gb292, 0, none⟩ (.string ((rd_T50 l0 x9_1).f0))).setCell ⟨gb292, 1, none⟩ (.int .i64 ((rd_T50 l0 x9_1).f1))).setCell ⟨gb292, 2, none⟩ (.bool ((rd_T50 l0 x9_1).f2))).setCell ⟨gb292, 3, none⟩ (.bool ((rd_T50 l0 x9_1).f3))).setCell ⟨gb292, 4, none⟩ (.bool ((rd_T50 l0 x9_1).f4))) = w50 at n0_ n1_ n2_ n3_ ⊢
   have HO_7 := n0_
   have HO_8 := n1_
   have BK292 := n2_
   have HB := n3_
   clear n0_ n1_ n2_ n3_
   have n0_ := Aside0.mk (Kd.R_drew HO_7.out)
   have n1_ := Aside0.mk (Kd.R_drew HO_8.out)
   have n2_ := Aside0.mk (blk_drew BK292.out)
   have n3_ := Aside0.mk (below_drew1 HB.out)
   clear HO_7
   clear HO_8
   clear BK292
   clear HB
   have HO_7 := n0_
   have HO_8 := n1_
   have BK292 := n2_
   have HB := n3_
   clear n0_ n1_ n2_ n3_
   have p312 : 0 ≤ (x10_1 : Int) := of_decide_eq_true (by first | (with_reducible assumption) | assumption)
   have q312 : x10_1 < (l1.length : Int) := of_decide_eq_true (by first | (with_reducible assumption) | assumption)
   obtain ⟨ad312, e312, hx312_0, hx312_1, hx312_2, hx312_3, hx312_4, hx312_5⟩ := at_T58 HR1.out x10_1 p312 q312
   have hw312_5 := hx312_5
   have hw312_4 := hx312_4
   have hw312_3 := hx312_3
   have hw312_2 := hx312_2
   have hw312_1 := hx312_1
   have hw312_0 := hx312_0
   obtain rfl : ad277 = ad312 := (by injection e312)
   replace hx312_0 := (HB.out.cell (World.block_lt_of_cell? w _ hx312_0)).trans hx312_0
   replace hx312_1 := (HB.out.cell (World.block_lt_of_cell? w _ hx312_1)).trans hx312_1
   replace hx312_2 := (HB.out.cell (World.block_lt_of_cell? w _ hx312_2)).trans hx312_2
   replace hx312_3 := (HB.out.cell (World.block_lt_of_cell? w _ hx312_3)).trans hx312_3
   replace hx312_4 := (HB.out.cell (World.block_lt_of_cell? w _ hx312_4)).trans hx312_4
   replace hx312_5 := (HB.out.cell (World.block_lt_of_cell? w _ hx312_5)).trans hx312_5
   replace p312 := eq_true p312
   replace q312 := eq_true q312
   have p314 : 0 ≤ (x10_1 : Int) := of_decide_eq_true (by first | (with_reducible assumption) | assumption)
   have q314 : x10_1 < (l1.length : Int) := of_decide_eq_true (by first | (with_reducible assumption) | assumption)
   obtain ⟨ad314, e314, hx314_0, hx314_1, hx314_2, hx314_3, hx314_4, hx314_5⟩ := at_T58 HR1.out x10_1 p314 q314
   have hw314_5 := hx314_5
   have hw314_4 := hx314_4
   have hw314_3 := hx314_3
   have hw314_2 := hx314_2
   have hw314_1 := hx314_1
   have hw314_0 := hx314_0
   obtain rfl : ad277 = ad314 := (by injection e314)
   replace hx314_0 := (HB.out.cell (World.block_lt_of_cell? w _ hx314_0)).trans hx314_0
   replace hx314_1 := (HB.out.cell (World.block_lt_of_cell? w _ hx314_1)).trans hx314_1
   replace hx314_2 := (HB.out.cell (World.block_lt_of_cell? w _ hx314_2)).trans hx314_2
   replace hx314_3 := (HB.out.cell (World.block_lt_of_cell? w _ hx314_3)).trans hx314_3
   replace hx314_4 := (HB.out.cell (World.block_lt_of_cell? w _ hx314_4)).trans hx314_4
   replace hx314_5 := (HB.out.cell (World.block_lt_of_cell? w _ hx314_5)).trans hx314_5
   replace p314 := eq_true p314
   replace q314 := eq_true q314
   refine start_ (n := 13) (S := fun w' => w'.cell? ⟨gb292, 0, none⟩ = some (.string ((rd_T50 l0 x9_1).f0)) ∧ w'.cell? ⟨gb292, 1, none⟩ = some (.int .i64 ((rd_T50 l0 x9_1).f1)) ∧ w'.cell? ⟨gb292, 2, none⟩ = some (.bool ((rd_T50 l0 x9_1).f2)) ∧ w'.cell? ⟨gb292, 3, none⟩ = some (.bool ((rd_T50 l0 x9_1).f3)) ∧ w'.cell? ⟨gb292, 4, none⟩ = some (.bool ((rd_T50 l0 x9_1).f4)) ∧ w'.cell? (ad277.add ((x10_1).toNat * 6)) = some (.int .i64 ((rd_T58 l1 x10_1).f0)) ∧ w'.cell? ⟨(ad277.add ((x10_1).toNat * 6)).block, (ad277.add ((x10_1).toNat * 6)).off + 1, none⟩ = some (.string ((rd_T58 l1 x10_1).f1.f0)) ∧ w'.cell? ⟨(ad277.add ((x10_1).toNat * 6)).block, (ad277.add ((x10_1).toNat * 6)).off + 2, none⟩ = some (.int .i64 ((rd_T58 l1 x10_1).f1.f1)) ∧ w'.cell? ⟨(ad277.add ((x10_1).toNat * 6)).block, (ad277.add ((x10_1).toNat * 6)).off + 3, none⟩ = some (.bool ((rd_T58 l1 x10_1).f1.f2)) ∧ w'.cell? ⟨(ad277.add ((x10_1).toNat * 6)).block, (ad277.add ((x10_1).toNat * 6)).off + 4, none⟩ = some (.bool ((rd_T58 l1 x10_1).f1.f3)) ∧ w'.cell? ⟨(ad277.add ((x10_1).toNat * 6)).block, (ad277.add ((x10_1).toNat * 6)).off + 5, none⟩ = some (.bool ((rd_T58 l1 x10_1).f1.f4)) ∧ w'.cell? (ad277.add ((x10_1).toNat * 6)) = some (.int .i64 ((rd_T58 l1 x10_1).f0)) ∧ w'.cell? ⟨(ad277.add ((x10_1).toNat * 6)).block, (ad277.add ((x10_1).toNat * 6)).off + 1, none⟩ = some (.string ((rd_T58 l1 x10_1).f1.f0)) ∧ w'.cell? ⟨(ad277.add ((x10_1).toNat * 6)).block, (ad277.add ((x10_1).toNat * 6)).off + 2, none⟩ = some (.int .i64 ((rd_T58 l1 x10_1).f1.f1)) ∧ w'.cell? ⟨(ad277.add ((x10_1).toNat * 6)).block, (ad277.add ((x10_1).toNat * 6)).off + 3, none⟩ = some (.bool ((rd_T58 l1 x10_1).f1.f2)) ∧ w'.cell? ⟨(ad277.add ((x10_1).toNat * 6)).block, (ad277.add ((x10_1).toNat * 6)).off + 4, none⟩ = some (.bool ((rd_T58 l1 x10_1).f1.f3)) ∧ w'.cell? ⟨(ad277.add ((x10_1).toNat * 6)).block, (ad277.add ((x10_1).toNat * 6)).off + 5, none⟩ = some (.bool ((rd_T58 l1 x10_1).f1.f4))) (ds := []) #[false, false, false, false, false, false, false, false, false, false, false, false, false] (by kernel_rfl) rfl rfl ⟨(blk_cell BK292.out 0).trans rfl, (blk_cell BK292.out 1).trans rfl, (blk_cell BK292.out 2).trans rfl, (blk_cell BK292.out 3).trans rfl, (blk_cell BK292.out 4).trans rfl, ((HB.out.cell (World.block_lt_of_cell? w _ hw312_0)).trans hw312_0), ((HB.out.cell (World.block_lt_of_cell? w _ hw312_1)).trans hw312_1), ((HB.out.cell (World.block_lt_of_cell? w _ hw312_2)).trans hw312_2), ((HB.out.cell (World.block_lt_of_cell? w _ hw312_3)).trans hw312_3), ((HB.out.cell (World.block_lt_of_cell? w _ hw312_4)).trans hw312_4), ((HB.out.cell (World.block_lt_of_cell? w _ hw312_5)).trans hw312_5), ((HB.out.cell (World.block_lt_of_cell? w _ hw314_0)).trans hw314_0), ((HB.out.cell (World.block_lt_of_cell? w _ hw314_1)).trans hw314_1), ((HB.out.cell (World.block_lt_of_cell? w _ hw314_2)).trans hw314_2), ((HB.out.cell (World.block_lt_of_cell? w _ hw314_3)).trans hw314_3), ((HB.out.cell (World.block_lt_of_cell? w _ hw314_4)).trans hw314_4), ((HB.out.cell (World.block_lt_of_cell? w _ hw314_5)).trans hw314_5)⟩ (fun hHeld => ?_); refine with_tabW salchowref25_apply.tab13 salchowref25_apply.bits13 (fun HT_ HW_ => ?_)
   generalize w50.drew = w51 at HO_7 HO_8 BK292 HB hx312_0 hx312_1 hx312_2 hx312_3 hx312_4 hx312_5 hx314_0 hx314_1 hx314_2 hx314_3 hx314_4 hx314_5 hHeld ⊢
   refine pure_ (i := 1) (N := some 54) (v := ?_) (a' := ?_) #[false, true, false, false, false, false, false, false, false, false, false, false, false] rfl rfl (any_of HT_.out (by kernel_rfl)) (fun _ _ _ h => h) (Or.inl ⟨by rfl, ?_⟩) ?_ ?_
   rotate_left
   ·intro w'
    go_simp
    with_reducible rfl
   rotate_left
   ·simp only [Act.put, sA, sZ, sS, i64_w, i32_w]
    rfl
   refine pure_ (i := 2) (N := some 55) (v := ?_) (a' := ?_) #[false, true, true, false, false, false, false, false, false, false, false, false, false] rfl rfl (any_of HT_.out (by kernel_rfl)) (fun _ _ _ h => h) (Or.inl ⟨by rfl, ?_⟩) ?_ ?_
   rotate_left
   ·intro w'
    go_simp
    with_reducible rfl
   rotate_left
   ·simp only [Act.put, sA, sZ, sS, i64_w, i32_w]
    rfl
   refine pure_ (i := 3) (N := some 56) (v := ?_) (a' := ?_) #[false, true, true, true, false, false, false, false, false, false, false, false, false] rfl rfl (any_of HT_.out (by kernel_rfl)) (fun _ _ _ h => h) (Or.inl ⟨by rfl, ?_⟩) ?_ ?_
   rotate_left
   ·intro w'
    go_simp
    with_reducible rfl
   rotate_left
   ·simp only [Act.put, sA, sZ, sS, i64_w, i32_w]
    rfl
   refine pure_ (i := 4) (N := some 57) (v := ?_) (a' := ?_) #[false, true, true, true, true, false, false, false, false, false, false, false, false] rfl rfl (any_of HT_.out (by kernel_rfl)) (fun _ _ _ h => h) (Or.inl ⟨by rfl, ?_⟩) ?_ ?_
   rotate_left
   ·intro w'
    go_simp
    with_reducible rfl
   rotate_left
   ·simp only [Act.put, sA, sZ, sS, i64_w, i32_w]
    rfl
   refine pure_ (i := 7) (N := some 60) (v := ?_) (a' := ?_) #[false, true, true, true, true, false, false, true, false, false, false, false, false] rfl rfl (any_of HT_.out (by kernel_rfl)) (fun _ _ _ h => h) (Or.inl ⟨by rfl, ?_⟩) ?_ ?_
   rotate_left
   ·intro w'
    go_simp
    with_reducible rfl
   rotate_left
   ·simp only [Act.put, sA, sZ, sS, i64_w, i32_w]
    rfl
   refine pure_ (i := 8) (N := some 61) (v := ?_) (a' := ?_) #[false, true, true, true, true, false, false, true, true, false, false, false, false] rfl rfl (any_of HT_.out (by kernel_rfl)) (fun _ _ _ h => h) (Or.inl ⟨by rfl, ?_⟩) ?_ ?_
   rotate_left
   ·intro w'
    go_simp
    with_reducible rfl
   rotate_left
   ·simp only [Act.put, sA, sZ, sS, i64_w, i32_w]
    rfl
   refine pure_ (i := 9) (N := some 62) (v := ?_) (a' := ?_) #[false, true, true, true, true, false, false, true, true, true, false, false, false] rfl rfl (any_of HT_.out (by kernel_rfl)) (fun _ _ _ h => h) (Or.inl ⟨by rfl, ?_⟩) ?_ ?_
   rotate_left
   ·intro w'
    go_simp
    with_reducible rfl
   rotate_left
   ·simp only [Act.put, sA, sZ, sS, i64_w, i32_w]
    rfl
   refine pure_ (i := 10) (N := some 63) (v := ?_) (a' := ?_) #[false, true, true, true, true, false, false, true, true, true, true, false, false] rfl rfl (any_of HT_.out (by kernel_rfl)) (fun _ _ _ h => h) (Or.inl ⟨by rfl, ?_⟩) ?_ ?_
   rotate_left
   ·intro w'
    go_simp
    with_reducible rfl
   rotate_left
   ·simp only [Act.put, sA, sZ, sS, i64_w, i32_w]
    rfl
   refine take_ (i := 0) (N := some 53) (v := ?_) (a' := ?_) #[true, true, true, true, true, false, false, true, true, true, true, false, false] rfl rfl (take_ofW HT_.out HW_.out (by kernel_rfl)) (fun _ _ _ h => h) (Or.inl ⟨by rfl, ?_⟩) hHeld ?_ ?_
   rotate_left
   ·rintro w' ⟨s0, s1, s2, s3, s4, s5, s6, s7, s8, s9, s10, s11, s12, s13, s14, s15, s16⟩
    go_simp
    with_reducible rfl
   rotate_left
   ·simp only [Act.put, sA, sZ, sS, i64_w, i32_w]
    rfl
   refine take_ (i := 5) (N := some 58) (v := ?_) (a' := ?_) #[true, true, true, true, true, true, false, true, true, true, true, false, false] rfl rfl (take_ofW HT_.out HW_.out (by kernel_rfl)) (fun _ _ _ h => h) (Or.inl ⟨by rfl, ?_⟩) hHeld ?_ ?_
   rotate_left
   ·rintro w' ⟨s0, s1, s2, s3, s4, s5, s6, s7, s8, s9, s10, s11, s12, s13, s14, s15, s16⟩
    go_simp
    with_reducible rfl
   rotate_left
   ·simp only [Act.put, sA, sZ, sS, i64_w, i32_w]
    rfl
   refine take_ (i := 11) (N := some 64) (v := ?_) (a' := ?_) #[true, true, true, true, true, true, false, true, true, true, true, true, false] rfl rfl (take_ofW HT_.out HW_.out (by kernel_rfl)) (fun _ _ _ h => h) (Or.inl ⟨by rfl, ?_⟩) hHeld ?_ ?_
   rotate_left
   ·rintro w' ⟨s0, s1, s2, s3, s4, s5, s6, s7, s8, s9, s10, s11, s12, s13, s14, s15, s16⟩
    go_simp
    with_reducible rfl
   rotate_left
   ·simp only [Act.put, sA, sZ, sS, i64_w, i32_w]
    rfl
   refine one_ (i := 6) (N := some 59) #[true, true, true, true, true, true, true, true, true, true, true, true, false] rfl rfl (one_of HT_.out (by kernel_rfl)) (by decide) (fun K hK => ?_)
   refine goes_ Try.func36 (by kernel_rfl) rfl #[.agg #[.string ((rd_T50 l0 x9_1).f0), .int .i64 ((rd_T50 l0 x9_1).f1), .bool ((rd_T50 l0 x9_1).f2), .bool ((rd_T50 l0 x9_1).f3), .bool ((rd_T50 l0 x9_1).f4)], .agg #[.string ((rd_T58 l1 x10_1).f1.f0), .int .i64 ((rd_T58 l1 x10_1).f1.f1), .bool ((rd_T58 l1 x10_1).f1.f2), .bool ((rd_T58 l1 x10_1).f1.f3), .bool ((rd_T58 l1 x10_1).f1.f4)]] (by rfl) rfl rfl (by (try simp only [List.map_toArray, List.map_cons, List.map_nil]); first | done | rfl | (simp only [List.length_drop, List.length_take]; rfl)) ?_
   with_reducible refine (salchowref25_Turn.calls ((rd_T50 l0 x9_1).f0) ((rd_T50 l0 x9_1).f1) ((rd_T50 l0 x9_1).f2) ((rd_T50 l0 x9_1).f3) ((rd_T50 l0 x9_1).f4) ((rd_T58 l1 x10_1).f1.f0) ((rd_T58 l1 x10_1).f1.f1) ((rd_T58 l1 x10_1).f1.f2) ((rd_T58 l1 x10_1).f1.f3) ((rd_T58 l1 x10_1).f1.f4) t313 _ A44.out).mono ?_
   rintro e w52 ⟨rfl, hb⟩
   refine ⟨_, rfl, ?_⟩
   have n0_ := Aside0.mk (Kd.R_below (by (with_reducible repeat (first | apply Kd.rA | apply Kd.rN | apply Kd.rD)); exact HO_7.out) hb)
   have n1_ := Aside0.mk (Kd.R_below (by (with_reducible repeat (first | apply Kd.rA | apply Kd.rN | apply Kd.rD)); exact HO_8.out) hb)
   have n2_ := Aside0.mk (blk_below (g := gb292) (o := .cells #[.string ((rd_T50 l0 x9_1).f0), .int .i64 ((rd_T50 l0 x9_1).f1), .bool ((rd_T50 l0 x9_1).f2), .bool ((rd_T50 l0 x9_1).f3), .bool ((rd_T50 l0 x9_1).f4)] 50 (0, 0)) (by (with_reducible repeat (first | refine blk_drewN ?_ _ | refine blk_drew ?_ | refine blk_alloc ?_ _)); exact BK292.out) hb)
   have n3_ := Aside0.mk (below_step (by repeat (first | (with_reducible first | exact HB.out | apply bA | apply bN | apply bD | refine below_set ?_ GE292.out) | exact HB.out)) hb)
   clear HO_7
   clear HO_8
   clear BK292
   clear HB
   have HO_7 := n0_
   have HO_8 := n1_
   have BK292 := n2_
   have HB := n3_
   clear n0_ n1_ n2_ n3_
   (try clear hb)
   (try clear hb2)
   (try clear hk)
   (try clear hi)
   refine hK.out _ _ ⟨(blk_cell BK292.out 0).trans rfl, (blk_cell BK292.out 1).trans rfl, (blk_cell BK292.out 2).trans rfl, (blk_cell BK292.out 3).trans rfl, (blk_cell BK292.out 4).trans rfl, ((HB.out.cell (World.block_lt_of_cell? w _ hw312_0)).trans hw312_0), ((HB.out.cell (World.block_lt_of_cell? w _ hw312_1)).trans hw312_1), ((HB.out.cell (World.block_lt_of_cell? w _ hw312_2)).trans hw312_2), ((HB.out.cell (World.block_lt_of_cell? w _ hw312_3)).trans hw312_3), ((HB.out.cell (World.block_lt_of_cell? w _ hw312_4)).trans hw312_4), ((HB.out.cell (World.block_lt_of_cell? w _ hw312_5)).trans hw312_5), ((HB.out.cell (World.block_lt_of_cell? w _ hw314_0)).trans hw314_0), ((HB.out.cell (World.block_lt_of_cell? w _ hw314_1)).trans hw314_1), ((HB.out.cell (World.block_lt_of_cell? w _ hw314_2)).trans hw314_2), ((HB.out.cell (World.block_lt_of_cell? w _ hw314_3)).trans hw314_3), ((HB.out.cell (World.block_lt_of_cell? w _ hw314_4)).trans hw314_4), ((HB.out.cell (World.block_lt_of_cell? w _ hw314_5)).trans hw314_5)⟩ (fun hHeld => ?_)
   clear hK K
   refine norm_ (a' := ?_) ?_ ?_
   rotate_left
   ·show Act.put _ (some 59) _ = _
    simp only [Act.put, sA, sZ, sS, i64_w, i32_w]
    rfl
   refine pure_ (i := 12) (N := some 65) (v := ?_) (a' := ?_) #[true, true, true, true, true, true, true, true, true, true, true, true, true] rfl rfl (any_of HT_.out (by kernel_rfl)) (fun _ _ _ h => h) (Or.inl ⟨by rfl, ?_⟩) ?_ ?_
   rotate_left
   ·intro w'
    go_simp
    with_reducible rfl
   rotate_left
   ·simp only [Act.put, sA, sZ, sS, i64_w, i32_w]
    rfl
   refine done_ (done_of HT_.out (by kernel_rfl)) ?_
   obtain ⟨Ao53, co53, eo53⟩ := Kd.R_slice HO_7.out
   subst eo53
   obtain ⟨Ao54, co54, eo54⟩ := Kd.R_slice HO_8.out
   subst eo54
   try go_wp2
   have n0_ := Aside0.mk (Kd.R_drew HO_7.out)
   have n1_ := Aside0.mk (Kd.R_drew HO_8.out)
   have n2_ := Aside0.mk (blk_drew BK292.out)
   have n3_ := Aside0.mk (below_drew1 HB.out)
   clear HO_7
   clear HO_8
   clear BK292
   clear HB
   have HO_7 := n0_
   have HO_8 := n1_
   have BK292 := n2_
   have HB := n3_
   clear n0_ n1_ n2_ n3_
   have p315 : 0 ≤ (x10_1 : Int) := of_decide_eq_true (by first | (with_reducible assumption) | assumption)
   have q315 : x10_1 < (l1.length : Int) := of_decide_eq_true (by first | (with_reducible assumption) | assumption)
   obtain ⟨ad315, e315, hx315_0, hx315_1, hx315_2, hx315_3, hx315_4, hx315_5⟩ := at_T58 HR1.out x10_1 p315 q315
   have hw315_5 := hx315_5
   have hw315_4 := hx315_4
   have hw315_3 := hx315_3
   have hw315_2 := hx315_2
   have hw315_1 := hx315_1
   have hw315_0 := hx315_0
   obtain rfl : ad277 = ad315 := (by injection e315)
   replace hx315_0 := (HB.out.cell (World.block_lt_of_cell? w _ hx315_0)).trans hx315_0
   replace hx315_1 := (HB.out.cell (World.block_lt_of_cell? w _ hx315_1)).trans hx315_1
   replace hx315_2 := (HB.out.cell (World.block_lt_of_cell? w _ hx315_2)).trans hx315_2
   replace hx315_3 := (HB.out.cell (World.block_lt_of_cell? w _ hx315_3)).trans hx315_3
   replace hx315_4 := (HB.out.cell (World.block_lt_of_cell? w _ hx315_4)).trans hx315_4
   replace hx315_5 := (HB.out.cell (World.block_lt_of_cell? w _ hx315_5)).trans hx315_5
   replace p315 := eq_true p315
   replace q315 := eq_true q315
   have p322 : 0 ≤ (x10_1 : Int) := of_decide_eq_true (by first | (with_reducible assumption) | assumption)
   have q322 : x10_1 < (l1.length : Int) := of_decide_eq_true (by first | (with_reducible assumption) | assumption)
   obtain ⟨ad322, e322, hx322_0, hx322_1, hx322_2, hx322_3, hx322_4, hx322_5⟩ := at_T58 HR1.out x10_1 p322 q322
   have hw322_5 := hx322_5
   have hw322_4 := hx322_4
   have hw322_3 := hx322_3
   have hw322_2 := hx322_2
   have hw322_1 := hx322_1
   have hw322_0 := hx322_0
   obtain rfl : ad277 = ad322 := (by injection e322)
   replace hx322_0 := (HB.out.cell (World.block_lt_of_cell? w _ hx322_0)).trans hx322_0
   replace hx322_1 := (HB.out.cell (World.block_lt_of_cell? w _ hx322_1)).trans hx322_1
   replace hx322_2 := (HB.out.cell (World.block_lt_of_cell? w _ hx322_2)).trans hx322_2
   replace hx322_3 := (HB.out.cell (World.block_lt_of_cell? w _ hx322_3)).trans hx322_3
   replace hx322_4 := (HB.out.cell (World.block_lt_of_cell? w _ hx322_4)).trans hx322_4
   replace hx322_5 := (HB.out.cell (World.block_lt_of_cell? w _ hx322_5)).trans hx322_5
   replace p322 := eq_true p322
   replace q322 := eq_true q322
   refine start_ (n := 20) (S := fun w' => w'.cell? ⟨gb292, 0, none⟩ = some (.string ((rd_T50 l0 x9_1).f0)) ∧ w'.cell? ⟨gb292, 1, none⟩ = some (.int .i64 ((rd_T50 l0 x9_1).f1)) ∧ w'.cell? ⟨gb292, 2, none⟩ = some (.bool ((rd_T50 l0 x9_1).f2)) ∧ w'.cell? ⟨gb292, 3, none⟩ = some (.bool ((rd_T50 l0 x9_1).f3)) ∧ w'.cell? ⟨gb292, 4, none⟩ = some (.bool ((rd_T50 l0 x9_1).f4)) ∧ w'.cell? (ad277.add ((x10_1).toNat * 6)) = some (.int .i64 ((rd_T58 l1 x10_1).f0)) ∧ w'.cell? ⟨(ad277.add ((x10_1).toNat * 6)).block, (ad277.add ((x10_1).toNat * 6)).off + 1, none⟩ = some (.string ((rd_T58 l1 x10_1).f1.f0)) ∧ w'.cell? ⟨(ad277.add ((x10_1).toNat * 6)).block, (ad277.add ((x10_1).toNat * 6)).off + 2, none⟩ = some (.int .i64 ((rd_T58 l1 x10_1).f1.f1)) ∧ w'.cell? ⟨(ad277.add ((x10_1).toNat * 6)).block, (ad277.add ((x10_1).toNat * 6)).off + 3, none⟩ = some (.bool ((rd_T58 l1 x10_1).f1.f2)) ∧ w'.cell? ⟨(ad277.add ((x10_1).toNat * 6)).block, (ad277.add ((x10_1).toNat * 6)).off + 4, none⟩ = some (.bool ((rd_T58 l1 x10_1).f1.f3)) ∧ w'.cell? ⟨(ad277.add ((x10_1).toNat * 6)).block, (ad277.add ((x10_1).toNat * 6)).off + 5, none⟩ = some (.bool ((rd_T58 l1 x10_1).f1.f4)) ∧ w'.cell? (ad277.add ((x10_1).toNat * 6)) = some (.int .i64 ((rd_T58 l1 x10_1).f0)) ∧ w'.cell? ⟨(ad277.add ((x10_1).toNat * 6)).block, (ad277.add ((x10_1).toNat * 6)).off + 1, none⟩ = some (.string ((rd_T58 l1 x10_1).f1.f0)) ∧ w'.cell? ⟨(ad277.add ((x10_1).toNat * 6)).block, (ad277.add ((x10_1).toNat * 6)).off + 2, none⟩ = some (.int .i64 ((rd_T58 l1 x10_1).f1.f1)) ∧ w'.cell? ⟨(ad277.add ((x10_1).toNat * 6)).block, (ad277.add ((x10_1).toNat * 6)).off + 3, none⟩ = some (.bool ((rd_T58 l1 x10_1).f1.f2)) ∧ w'.cell? ⟨(ad277.add ((x10_1).toNat * 6)).block, (ad277.add ((x10_1).toNat * 6)).off + 4, none⟩ = some (.bool ((rd_T58 l1 x10_1).f1.f3)) ∧ w'.cell? ⟨(ad277.add ((x10_1).toNat * 6)).block, (ad277.add ((x10_1).toNat * 6)).off + 5, none⟩ = some (.bool ((rd_T58 l1 x10_1).f1.f4))) (ds := []) #[false, false, false, false, false, false, false, false, false, false, false, false, false, false, false, false, false, false, false, false] (by kernel_rfl) rfl rfl ⟨(blk_cell BK292.out 0).trans rfl, (blk_cell BK292.out 1).trans rfl, (blk_cell BK292.out 2).trans rfl, (blk_cell BK292.out 3).trans rfl, (blk_cell BK292.out 4).trans rfl, ((HB.out.cell (World.block_lt_of_cell? w _ hw315_0)).trans hw315_0), ((HB.out.cell (World.block_lt_of_cell? w _ hw315_1)).trans hw315_1), ((HB.out.cell (World.block_lt_of_cell? w _ hw315_2)).trans hw315_2), ((HB.out.cell (World.block_lt_of_cell? w _ hw315_3)).trans hw315_3), ((HB.out.cell (World.block_lt_of_cell? w _ hw315_4)).trans hw315_4), ((HB.out.cell (World.block_lt_of_cell? w _ hw315_5)).trans hw315_5), ((HB.out.cell (World.block_lt_of_cell? w _ hw322_0)).trans hw322_0), ((HB.out.cell (World.block_lt_of_cell? w _ hw322_1)).trans hw322_1), ((HB.out.cell (World.block_lt_of_cell? w _ hw322_2)).trans hw322_2), ((HB.out.cell (World.block_lt_of_cell? w _ hw322_3)).trans hw322_3), ((HB.out.cell (World.block_lt_of_cell? w _ hw322_4)).trans hw322_4), ((HB.out.cell (World.block_lt_of_cell? w _ hw322_5)).trans hw322_5)⟩ (fun hHeld => ?_); refine with_tabW salchowref25_apply.tab15 salchowref25_apply.bits15 (fun HT_ HW_ => ?_)
   generalize w52.drew = w55 at HO_7 HO_8 BK292 HB hx315_0 hx315_1 hx315_2 hx315_3 hx315_4 hx315_5 hx322_0 hx322_1 hx322_2 hx322_3 hx322_4 hx322_5 hHeld ⊢
   refine pure_ (i := 0) (N := some 66) (v := ?_) (a' := ?_) #[true, false, false, false, false, false, false, false, false, false, false, false, false, false, false, false, false, false, false, false] rfl rfl (any_of HT_.out (by kernel_rfl)) (fun _ _ _ h => h) (Or.inl ⟨by rfl, ?_⟩) ?_ ?_
   rotate_left
   ·intro w'
    go_simp
    with_reducible rfl
   rotate_left
   ·simp only [Act.put, sA, sZ, sS, i64_w, i32_w]
    rfl
   refine pure_ (i := 1) (N := some 67) (v := ?_) (a' := ?_) #[true, true, false, false, false, false, false, false, false, false, false, false, false, false, false, false, false, false, false, false] rfl rfl (any_of HT_.out (by kernel_rfl)) (fun _ _ _ h => h) (Or.inl ⟨by rfl, ?_⟩) ?_ ?_
   rotate_left
   ·intro w'
    go_simp
    with_reducible rfl
   rotate_left
   ·simp only [Act.put, sA, sZ, sS, i64_w, i32_w]
    rfl
   refine pure_ (i := 2) (N := some 68) (v := ?_) (a' := ?_) #[true, true, true, false, false, false, false, false, false, false, false, false, false, false, false, false, false, false, false, false] rfl rfl (any_of HT_.out (by kernel_rfl)) (fun _ _ _ h => h) (Or.inl ⟨by rfl, ?_⟩) ?_ ?_
   rotate_left
   ·intro w'
    go_simp
    with_reducible rfl
   rotate_left
   ·simp only [Act.put, sA, sZ, sS, i64_w, i32_w]
    rfl
   refine pure_ (i := 3) (N := some 69) (v := ?_) (a' := ?_) #[true, true, true, true, false, false, false, false, false, false, false, false, false, false, false, false, false, false, false, false] rfl rfl (any_of HT_.out (by kernel_rfl)) (fun _ _ _ h => h) (Or.inl ⟨by rfl, ?_⟩) ?_ ?_
   rotate_left
   ·intro w'
    go_simp
    with_reducible rfl
   rotate_left
   ·simp only [Act.put, sA, sZ, sS, i64_w, i32_w]
    rfl
   refine pure_ (i := 4) (N := some 70) (v := ?_) (a' := ?_) #[true, true, true, true, true, false, false, false, false, false, false, false, false, false, false, false, false, false, false, false] rfl rfl (any_of HT_.out (by kernel_rfl)) (fun _ _ _ h => h) (Or.inl ⟨by rfl, ?_⟩) ?_ ?_
   rotate_left
   ·intro w'
    go_simp
    with_reducible rfl
   rotate_left
   ·simp only [Act.put, sA, sZ, sS, i64_w, i32_w]
    rfl
   refine pure_ (i := 8) (N := some 74) (v := ?_) (a' := ?_) #[true, true, true, true, true, false, false, false, true, false, false, false, false, false, false, false, false, false, false, false] rfl rfl (any_of HT_.out (by kernel_rfl)) (fun _ _ _ h => h) (Or.inl ⟨by rfl, ?_⟩) ?_ ?_
   rotate_left
   ·intro w'
    go_simp
    with_reducible rfl
   rotate_left
   ·simp only [Act.put, sA, sZ, sS, i64_w, i32_w]
    rfl
   refine pure_ (i := 9) (N := some 75) (v := ?_) (a' := ?_) #[true, true, true, true, true, false, false, false, true, true, false, false, false, false, false, false, false, false, false, false] rfl rfl (any_of HT_.out (by kernel_rfl)) (fun _ _ _ h => h) (Or.inl ⟨by rfl, ?_⟩) ?_ ?_
   rotate_left
   ·intro w'
    go_simp
    with_reducible rfl
   rotate_left
   ·simp only [Act.put, sA, sZ, sS, i64_w, i32_w]
    rfl
   refine pure_ (i := 10) (N := some 76) (v := ?_) (a' := ?_) #[true, true, true, true, true, false, false, false, true, true, true, false, false, false, false, false, false, false, false, false] rfl rfl (any_of HT_.out (by kernel_rfl)) (fun _ _ _ h => h) (Or.inl ⟨by rfl, ?_⟩) ?_ ?_
   rotate_left
   ·intro w'
    go_simp
    with_reducible rfl
   rotate_left
   ·simp only [Act.put, sA, sZ, sS, i64_w, i32_w]
    rfl
   refine pure_ (i := 11) (N := some 77) (v := ?_) (a' := ?_) #[true, true, true, true, true, false, false, false, true, true, true, true, false, false, false, false, false, false, false, false] rfl rfl (any_of HT_.out (by kernel_rfl)) (fun _ _ _ h => h) (Or.inl ⟨by rfl, ?_⟩) ?_ ?_
   rotate_left
   ·intro w'
    go_simp
    with_reducible rfl
   rotate_left
   ·simp only [Act.put, sA, sZ, sS, i64_w, i32_w]
    rfl
   refine pure_ (i := 12) (N := some 78) (v := ?_) (a' := ?_) #[true, true, true, true, true, false, false, false, true, true, true, true, true, false, false, false, false, false, false, false] rfl rfl (any_of HT_.out (by kernel_rfl)) (fun _ _ _ h => h) (Or.inl ⟨by rfl, ?_⟩) ?_ ?_
   rotate_left
   ·intro w'
    go_simp
    with_reducible rfl
   rotate_left
   ·simp only [Act.put, sA, sZ, sS, i64_w, i32_w]
    rfl
   refine take_ (i := 5) (N := some 71) (v := ?_) (a' := ?_) #[true, true, true, true, true, true, false, false, true, true, true, true, true, false, false, false, false, false, false, false] rfl rfl (take_ofW HT_.out HW_.out (by kernel_rfl)) (fun _ _ _ h => h) (Or.inl ⟨by rfl, ?_⟩) hHeld ?_ ?_
   rotate_left
   ·rintro w' ⟨s0, s1, s2, s3, s4, s5, s6, s7, s8, s9, s10, s11, s12, s13, s14, s15, s16⟩
    go_simp
    with_reducible rfl
   rotate_left
   ·simp only [Act.put, sA, sZ, sS, i64_w, i32_w]
    rfl
   refine take_ (i := 13) (N := some 79) (v := ?_) (a' := ?_) #[true, true, true, true, true, true, false, false, true, true, true, true, true, true, false, false, false, false, false, false] rfl rfl (take_ofW HT_.out HW_.out (by kernel_rfl)) (fun _ _ _ h => h) (Or.inl ⟨by rfl, ?_⟩) hHeld ?_ ?_
   rotate_left
   ·rintro w' ⟨s0, s1, s2, s3, s4, s5, s6, s7, s8, s9, s10, s11, s12, s13, s14, s15, s16⟩
    go_simp
    with_reducible rfl
   rotate_left
   ·simp only [Act.put, sA, sZ, sS, i64_w, i32_w]
    rfl
   refine take_ (i := 14) (N := some 80) (v := ?_) (a' := ?_) #[true, true, true, true, true, true, false, false, true, true, true, true, true, true, true, false, false, false, false, false] rfl rfl (take_ofW HT_.out HW_.out (by kernel_rfl)) (fun _ _ _ h => h) (Or.inl ⟨by rfl, ?_⟩) hHeld ?_ ?_
   rotate_left
   ·rintro w' ⟨s0, s1, s2, s3, s4, s5, s6, s7, s8, s9, s10, s11, s12, s13, s14, s15, s16⟩
    go_simp
    with_reducible rfl
   rotate_left
   ·simp only [Act.put, sA, sZ, sS, i64_w, i32_w]
    rfl
   refine pure_ (i := 15) (N := some 81) (v := ?_) (a' := ?_) #[true, true, true, true, true, true, false, false, true, true, true, true, true, true, true, true, false, false, false, false] rfl rfl (any_of HT_.out (by kernel_rfl)) (fun _ _ _ h => h) (Or.inl ⟨by rfl, ?_⟩) ?_ ?_
   rotate_left
   ·intro w'
    go_simp
    with_reducible rfl
   rotate_left
   ·simp only [Act.put, sA, sZ, sS, i64_w, i32_w]
    rfl
   refine join_ (σ := Value × Value × Value) 3 #[true, true, true, true, true, true, true, true, true, true, true, true, true, true, true, true, true, false, false, false] (fun s_ => [(72, s_.1), (73, s_.2.1), (82, s_.2.2)]) (fun s_ w' => (w'.cell? ⟨gb292, 0, none⟩ = some (.string ((rd_T50 l0 x9_1).f0)) ∧ w'.cell? ⟨gb292, 1, none⟩ = some (.int .i64 ((rd_T50 l0 x9_1).f1)) ∧ w'.cell? ⟨gb292, 2, none⟩ = some (.bool ((rd_T50 l0 x9_1).f2)) ∧ w'.cell? ⟨gb292, 3, none⟩ = some (.bool ((rd_T50 l0 x9_1).f3)) ∧ w'.cell? ⟨gb292, 4, none⟩ = some (.bool ((rd_T50 l0 x9_1).f4)) ∧ w'.cell? (ad277.add ((x10_1).toNat * 6)) = some (.int .i64 ((rd_T58 l1 x10_1).f0)) ∧ w'.cell? ⟨(ad277.add ((x10_1).toNat * 6)).block, (ad277.add ((x10_1).toNat * 6)).off + 1, none⟩ = some (.string ((rd_T58 l1 x10_1).f1.f0)) ∧ w'.cell? ⟨(ad277.add ((x10_1).toNat * 6)).block, (ad277.add ((x10_1).toNat * 6)).off + 2, none⟩ = some (.int .i64 ((rd_T58 l1 x10_1).f1.f1)) ∧ w'.cell? ⟨(ad277.add ((x10_1).toNat * 6)).block, (ad277.add ((x10_1).toNat * 6)).off + 3, none⟩ = some (.bool ((rd_T58 l1 x10_1).f1.f2)) ∧ w'.cell? ⟨(ad277.add ((x10_1).toNat * 6)).block, (ad277.add ((x10_1).toNat * 6)).off + 4, none⟩ = some (.bool ((rd_T58 l1 x10_1).f1.f3)) ∧ w'.cell? ⟨(ad277.add ((x10_1).toNat * 6)).block, (ad277.add ((x10_1).toNat * 6)).off + 5, none⟩ = some (.bool ((rd_T58 l1 x10_1).f1.f4)) ∧ w'.cell? (ad277.add ((x10_1).toNat * 6)) = some (.int .i64 ((rd_T58 l1 x10_1).f0)) ∧ w'.cell? ⟨(ad277.add ((x10_1).toNat * 6)).block, (ad277.add ((x10_1).toNat * 6)).off + 1, none⟩ = some (.string ((rd_T58 l1 x10_1).f1.f0)) ∧ w'.cell? ⟨(ad277.add ((x10_1).toNat * 6)).block, (ad277.add ((x10_1).toNat * 6)).off + 2, none⟩ = some (.int .i64 ((rd_T58 l1 x10_1).f1.f1)) ∧ w'.cell? ⟨(ad277.add ((x10_1).toNat * 6)).block, (ad277.add ((x10_1).toNat * 6)).off + 3, none⟩ = some (.bool ((rd_T58 l1 x10_1).f1.f2)) ∧ w'.cell? ⟨(ad277.add ((x10_1).toNat * 6)).block, (ad277.add ((x10_1).toNat * 6)).off + 4, none⟩ = some (.bool ((rd_T58 l1 x10_1).f1.f3)) ∧ w'.cell? ⟨(ad277.add ((x10_1).toNat * 6)).block, (ad277.add ((x10_1).toNat * 6)).off + 5, none⟩ = some (.bool ((rd_T58 l1 x10_1).f1.f4))) ∧ (Kd.R k50 50 w' w.heap.size (fun k_ => some k_ ≠ (s_.2.1 : Value).ownBlock ∧ k_ ≠ gb292) s_.1 y316) ∧ (Kd.R k50 50 w' w.heap.size (fun k_ => some k_ ≠ (s_.1 : Value).ownBlock ∧ k_ ≠ gb292) s_.2.1 y319) ∧ (Kd.R k58 58 w' w.heap.size (fun k_ => some k_ ≠ (.slice Ao54 x8_1.length co54 : Value).ownBlock) s_.2.2 y323) ∧ (Kd.R k58 58 w' w.heap.size (fun k_ => some k_ ≠ (s_.2.2 : Value).ownBlock) (.slice Ao54 x8_1.length co54) x8_1) ∧ (w'.heap[gb292]? = some (.cells #[.string ((rd_T50 l0 x9_1).f0), .int .i64 ((rd_T50 l0 x9_1).f1), .bool ((rd_T50 l0 x9_1).f2), .bool ((rd_T50 l0 x9_1).f3), .bool ((rd_T50 l0 x9_1).f4)] 50 (0, 0))) ∧ (Below w.heap.size w w')) ?_ ?_
   rotate_left
   ·intro hCont
    refine two_ (i := 6) (j := 16) (Ni := some 72) (Nj := some 82) #[true, true, true, true, true, true, true, false, true, true, true, true, true, true, true, true, false, false, false, false] #[true, true, true, true, true, true, false, false, true, true, true, true, true, true, true, true, true, false, false, false] rfl rfl rfl rfl (two_of HT_.out (by kernel_rfl)) (by decide) (by decide) (fun K hK => ?_) (fun K hK => ?_)
    ·skip
     refine Kd.R_lit_step k50 _ 50 ?hg (N := 72) ?hd (xs := ([(⟨(rd_T58 l1 x10_1).f1.f0, (rd_T58 l1 x10_1).f1.f1, (rd_T58 l1 x10_1).f1.f2, (rd_T58 l1 x10_1).f1.f3, (rd_T58 l1 x10_1).f1.f4⟩ : S50)] : List (S50))) (inner := [.string ((rd_T58 l1 x10_1).f1.f0), .int .i64 ((rd_T58 l1 x10_1).f1.f1), .bool ((rd_T58 l1 x10_1).f1.f2), .bool ((rd_T58 l1 x10_1).f1.f3), .bool ((rd_T58 l1 x10_1).f1.f4)]) (ok := fun _ => True) (okp := fun _ => True) ?hr ?hp (fun _ hk => hk) trivial (Below.refl _ _) (Nat.le_refl _) (by simp) ?_; (case hd => rfl); (case hg => rfl); (case hr => first | (go_simp; done) | (go_simp; rfl)); (case hp => exact (Reps.c5 (show Kd.M k50 _ _ _ (⟨(rd_T58 l1 x10_1).f1.f0, (rd_T58 l1 x10_1).f1.f1, (rd_T58 l1 x10_1).f1.f2, (rd_T58 l1 x10_1).f1.f3, (rd_T58 l1 x10_1).f1.f4⟩ : S50) [.string ((rd_T58 l1 x10_1).f1.f0), .int .i64 ((rd_T58 l1 x10_1).f1.f1), .bool ((rd_T58 l1 x10_1).f1.f2), .bool ((rd_T58 l1 x10_1).f1.f3), .bool ((rd_T58 l1 x10_1).f1.f4)] from (k50_mkM _ _ _ (⟨(rd_T58 l1 x10_1).f1.f0, (rd_T58 l1 x10_1).f1.f1, (rd_T58 l1 x10_1).f1.f2, (rd_T58 l1 x10_1).f1.f3, (rd_T58 l1 x10_1).f1.f4⟩ : S50) )) (Reps.none _ _)))
     intro v317 w56 ho57 hb hg_ hnew_
     clear hg_ hnew_
     (first | rw [← Ny316.out] at ho57 | (simp only [Int.reduceToNat] at ho57; rw [← Ny316.out] at ho57))
     have n0_ := Aside0.mk (Kd.R_elder' (by (with_reducible repeat (first | apply Kd.rA | apply Kd.rN | apply Kd.rD)); exact HO_7.out) (Kd.R_base ho57) hb)
     have n1_ := Aside0.mk (Kd.R_below (by (with_reducible repeat (first | apply Kd.rA | apply Kd.rN | apply Kd.rD)); exact HO_8.out) hb)
     have n2_ := Aside0.mk (Kd.R_lower (Kd.R_newB (Kd.R_new' ho57 (Kd.R_lt (by (with_reducible repeat (first | apply Kd.rA | apply Kd.rN | apply Kd.rD)); exact HO_7.out))) (g := gb292) (o := .cells #[.string ((rd_T50 l0 x9_1).f0), .int .i64 ((rd_T50 l0 x9_1).f1), .bool ((rd_T50 l0 x9_1).f2), .bool ((rd_T50 l0 x9_1).f3), .bool ((rd_T50 l0 x9_1).f4)] 50 (0, 0)) (by (with_reducible repeat (first | refine blk_drewN ?_ _ | refine blk_drew ?_ | refine blk_alloc ?_ _)); exact BK292.out)) (below_size (by repeat (first | (with_reducible first | exact HB.out | apply bA | apply bN | apply bD | refine below_set ?_ GE292.out) | exact HB.out))))
     have n3_ := Aside0.mk (blk_below (g := gb292) (o := .cells #[.string ((rd_T50 l0 x9_1).f0), .int .i64 ((rd_T50 l0 x9_1).f1), .bool ((rd_T50 l0 x9_1).f2), .bool ((rd_T50 l0 x9_1).f3), .bool ((rd_T50 l0 x9_1).f4)] 50 (0, 0)) (by (with_reducible repeat (first | refine blk_drewN ?_ _ | refine blk_drew ?_ | refine blk_alloc ?_ _)); exact BK292.out) hb)
     have n4_ := Aside0.mk (below_step (by repeat (first | (with_reducible first | exact HB.out | apply bA | apply bN | apply bD | refine below_set ?_ GE292.out) | exact HB.out)) hb)
     clear HO_7
     clear HO_8
     clear BK292
     clear HB
     have HO_7 := n0_
     have HO_8 := n1_
     have HO318 := n2_
     have BK292 := n3_
     have HB := n4_
     clear n0_ n1_ n2_ n3_ n4_
     clear hb ho57
     obtain ⟨Ao59, co59, eo59⟩ := Kd.R_slice HO318.out
     (first | subst eo59 | (injection eo59 with f1_ f2_ f3_; have f4_ := f1_.symm; have f5_ := f3_.symm; clear f1_ f2_ f3_; subst f4_; subst f5_))
     refine hK.out _ _ ⟨(blk_cell BK292.out 0).trans rfl, (blk_cell BK292.out 1).trans rfl, (blk_cell BK292.out 2).trans rfl, (blk_cell BK292.out 3).trans rfl, (blk_cell BK292.out 4).trans rfl, ((HB.out.cell (World.block_lt_of_cell? w _ hw315_0)).trans hw315_0), ((HB.out.cell (World.block_lt_of_cell? w _ hw315_1)).trans hw315_1), ((HB.out.cell (World.block_lt_of_cell? w _ hw315_2)).trans hw315_2), ((HB.out.cell (World.block_lt_of_cell? w _ hw315_3)).trans hw315_3), ((HB.out.cell (World.block_lt_of_cell? w _ hw315_4)).trans hw315_4), ((HB.out.cell (World.block_lt_of_cell? w _ hw315_5)).trans hw315_5), ((HB.out.cell (World.block_lt_of_cell? w _ hw322_0)).trans hw322_0), ((HB.out.cell (World.block_lt_of_cell? w _ hw322_1)).trans hw322_1), ((HB.out.cell (World.block_lt_of_cell? w _ hw322_2)).trans hw322_2), ((HB.out.cell (World.block_lt_of_cell? w _ hw322_3)).trans hw322_3), ((HB.out.cell (World.block_lt_of_cell? w _ hw322_4)).trans hw322_4), ((HB.out.cell (World.block_lt_of_cell? w _ hw322_5)).trans hw322_5)⟩ (fun hHeld => ?_)
     clear hK K
     refine norm_ (a' := ?_) ?_ ?_
     rotate_left
     ·show Act.put _ (some 72) _ = _
      simp only [Act.put, sA, sZ, sS, i64_w, i32_w]
      rfl
     refine two_ (i := 7) (j := 16) (Ni := some 73) (Nj := some 82) #[true, true, true, true, true, true, true, true, true, true, true, true, true, true, true, true, false, false, false, false] #[true, true, true, true, true, true, true, false, true, true, true, true, true, true, true, true, true, false, false, false] rfl rfl rfl rfl (two_of HT_.out (by kernel_rfl)) (by decide) (by decide) (fun K hK => ?_) (fun K hK => ?_)
     ·skip
      refine Kd.R_append_rows_step k50 (w0 := w) w.heap.size (by rfl) (.tmp 66) (.tmp 72) 22 50 (.agg #[(.string ⟨#[]⟩), (.int .i64 0), (.bool false), (.bool false), (.bool false)]) 32 rfl Try.underlying22 info50 rfl (by decide) (by omega) (.slice Ao53 x7_1.length co53) x7_1 y316 _ _ _ (fun k_ => some k_ ≠ (.slice Ao59 y316.length co59 : Value).ownBlock ∧ k_ ≠ gb292) (fun _ => False) rfl rfl ?aO ?aR (fun _ _ h => h) (fun _ h => h.elim) ?aF ?aB ?aS ?aL ?_
      (case aR => repeat (first | exact (Kd.R_reads' HO318.out).2.2 | (with_reducible apply Kd.C_alloc) | (with_reducible apply Kd.C_drewN) | (with_reducible apply Kd.C_drew)))
      (case aB => exact (by repeat (first | (with_reducible first | exact HB.out | apply bA | apply bN | apply bD | refine below_set ?_ GE292.out) | exact HB.out)))
      (case aF => exact (fun k_ hk => ⟨Kd.fresh' (Kd.R_lt (by (with_reducible repeat (first | apply Kd.rA | apply Kd.rN | apply Kd.rD)); exact HO318.out)) k_ hk, Kd.freshB (g := gb292) (o := .cells #[.string ((rd_T50 l0 x9_1).f0), .int .i64 ((rd_T50 l0 x9_1).f1), .bool ((rd_T50 l0 x9_1).f2), .bool ((rd_T50 l0 x9_1).f3), .bool ((rd_T50 l0 x9_1).f4)] 50 (0, 0)) (by (with_reducible repeat (first | refine blk_drewN ?_ _ | refine blk_drew ?_ | refine blk_alloc ?_ _)); exact BK292.out) k_ hk⟩))
      (case aO => exact (by (with_reducible repeat (first | apply Kd.rA | apply Kd.rN | apply Kd.rD)); exact Kd.R_mono HO_7.out (fun _ hk => ⟨hk.2, hk.1⟩)))
      (case aS => exact (below_size (by repeat (first | (with_reducible first | exact HB.out | apply bA | apply bN | apply bD | refine below_set ?_ GE292.out) | exact HB.out))))
      (case aL => have := LMc46.out; omega)
      intro v320 w58 ho hb hg hat
      rw [← Ny319.out] at ho
      have n0_ := Aside0.mk (Kd.R_over' (by (with_reducible repeat (first | apply Kd.rA | apply Kd.rN | apply Kd.rD)); exact HO_8.out) (Kd.R_typed (by (with_reducible repeat (first | apply Kd.rA | apply Kd.rN | apply Kd.rD)); exact HO_7.out)) (by decide) hg)
      have n1_ := Aside0.mk (blk_grown (g := gb292) (o := .cells #[.string ((rd_T50 l0 x9_1).f0), .int .i64 ((rd_T50 l0 x9_1).f1), .bool ((rd_T50 l0 x9_1).f2), .bool ((rd_T50 l0 x9_1).f3), .bool ((rd_T50 l0 x9_1).f4)] 50 (0, 0)) (by (with_reducible repeat (first | refine blk_drewN ?_ _ | refine blk_drew ?_ | refine blk_alloc ?_ _)); exact BK292.out) hg (Kd.R_away HO_7.out (fun _ hk => hk.1)))
      have n2_ := Aside0.mk (Kd.R_after (ok := (fun k_ => k_ ≠ gb292)) (by (with_reducible repeat (first | apply Kd.rA | apply Kd.rN | apply Kd.rD)); exact Kd.R_mono HO318.out (fun _ hk => ⟨hk.2, hk.1.2⟩)) hg hat)
      have n3_ := Aside0.mk (hb)
      have n4_ := Aside0.mk (ho)
      clear HO_8
      clear BK292
      clear HO318
      clear HB
      clear HO_7
      have HO_8 := n0_
      have BK292 := n1_
      have HO318 := n2_
      have HB := n3_
      have HO321 := n4_
      clear n0_ n1_ n2_ n3_ n4_
      clear ho hb hg hat
      refine hK.out _ _ ⟨(blk_cell BK292.out 0).trans rfl, (blk_cell BK292.out 1).trans rfl, (blk_cell BK292.out 2).trans rfl, (blk_cell BK292.out 3).trans rfl, (blk_cell BK292.out 4).trans rfl, ((HB.out.cell (World.block_lt_of_cell? w _ hw315_0)).trans hw315_0), ((HB.out.cell (World.block_lt_of_cell? w _ hw315_1)).trans hw315_1), ((HB.out.cell (World.block_lt_of_cell? w _ hw315_2)).trans hw315_2), ((HB.out.cell (World.block_lt_of_cell? w _ hw315_3)).trans hw315_3), ((HB.out.cell (World.block_lt_of_cell? w _ hw315_4)).trans hw315_4), ((HB.out.cell (World.block_lt_of_cell? w _ hw315_5)).trans hw315_5), ((HB.out.cell (World.block_lt_of_cell? w _ hw322_0)).trans hw322_0), ((HB.out.cell (World.block_lt_of_cell? w _ hw322_1)).trans hw322_1), ((HB.out.cell (World.block_lt_of_cell? w _ hw322_2)).trans hw322_2), ((HB.out.cell (World.block_lt_of_cell? w _ hw322_3)).trans hw322_3), ((HB.out.cell (World.block_lt_of_cell? w _ hw322_4)).trans hw322_4), ((HB.out.cell (World.block_lt_of_cell? w _ hw322_5)).trans hw322_5)⟩ (fun hHeld => ?_)
      clear hK K
      refine norm_ (a' := ?_) ?_ ?_
      rotate_left
      ·show Act.put _ (some 73) _ = _
       simp only [Act.put, sA, sZ, sS, i64_w, i32_w]
       rfl
      refine one_ (i := 16) (N := some 82) #[true, true, true, true, true, true, true, true, true, true, true, true, true, true, true, true, true, false, false, false] rfl rfl (one_of HT_.out (by kernel_rfl)) (by decide) (fun K hK => ?_)
      refine Kd.R_lit_step k58 _ 58 ?hg (N := 82) ?hd (xs := ([(⟨(rd_T58 l1 x10_1).f0, (⟨(rd_T50 l0 x9_1).f0, (rd_T50 l0 x9_1).f1, (rd_T50 l0 x9_1).f2, (rd_T50 l0 x9_1).f3, (rd_T50 l0 x9_1).f4⟩ : S50)⟩ : S58)] : List (S58))) (inner := [.int .i64 ((rd_T58 l1 x10_1).f0), .string ((rd_T50 l0 x9_1).f0), .int .i64 ((rd_T50 l0 x9_1).f1), .bool ((rd_T50 l0 x9_1).f2), .bool ((rd_T50 l0 x9_1).f3), .bool ((rd_T50 l0 x9_1).f4)]) (ok := fun _ => True) (okp := fun _ => True) ?hr ?hp (fun _ hk => hk) trivial (Below.refl _ _) (Nat.le_refl _) (by simp) ?_; (case hd => rfl); (case hg => rfl); (case hr => first | (go_simp; done) | (go_simp; rfl)); (case hp => exact (Reps.c6 (show Kd.M k58 _ _ _ (⟨(rd_T58 l1 x10_1).f0, (⟨(rd_T50 l0 x9_1).f0, (rd_T50 l0 x9_1).f1, (rd_T50 l0 x9_1).f2, (rd_T50 l0 x9_1).f3, (rd_T50 l0 x9_1).f4⟩ : S50)⟩ : S58) [.int .i64 ((rd_T58 l1 x10_1).f0), .string ((rd_T50 l0 x9_1).f0), .int .i64 ((rd_T50 l0 x9_1).f1), .bool ((rd_T50 l0 x9_1).f2), .bool ((rd_T50 l0 x9_1).f3), .bool ((rd_T50 l0 x9_1).f4)] from (k58_mkM _ _ _ (⟨(rd_T58 l1 x10_1).f0, (⟨(rd_T50 l0 x9_1).f0, (rd_T50 l0 x9_1).f1, (rd_T50 l0 x9_1).f2, (rd_T50 l0 x9_1).f3, (rd_T50 l0 x9_1).f4⟩ : S50)⟩ : S58) )) (Reps.none _ _)))
      intro v324 w60 ho61 hb hg_ hnew_
      clear hg_ hnew_
      (first | rw [← Ny323.out] at ho61 | (simp only [Int.reduceToNat] at ho61; rw [← Ny323.out] at ho61))
      have n0_ := Aside0.mk (Kd.R_elder' (by (with_reducible repeat (first | apply Kd.rA | apply Kd.rN | apply Kd.rD)); exact HO_8.out) (Kd.R_base ho61) hb)
      have n1_ := Aside0.mk (Kd.R_below (by (with_reducible repeat (first | apply Kd.rA | apply Kd.rN | apply Kd.rD)); exact HO318.out) hb)
      have n2_ := Aside0.mk (Kd.R_below (by (with_reducible repeat (first | apply Kd.rA | apply Kd.rN | apply Kd.rD)); exact HO321.out) hb)
      have n3_ := Aside0.mk (Kd.R_lower (Kd.R_new' ho61 (Kd.R_lt (by (with_reducible repeat (first | apply Kd.rA | apply Kd.rN | apply Kd.rD)); exact HO_8.out))) (below_size (by repeat (first | (with_reducible first | exact HB.out | apply bA | apply bN | apply bD | refine below_set ?_ GE292.out) | exact HB.out))))
      have n4_ := Aside0.mk (blk_below (g := gb292) (o := .cells #[.string ((rd_T50 l0 x9_1).f0), .int .i64 ((rd_T50 l0 x9_1).f1), .bool ((rd_T50 l0 x9_1).f2), .bool ((rd_T50 l0 x9_1).f3), .bool ((rd_T50 l0 x9_1).f4)] 50 (0, 0)) (by (with_reducible repeat (first | refine blk_drewN ?_ _ | refine blk_drew ?_ | refine blk_alloc ?_ _)); exact BK292.out) hb)
      have n5_ := Aside0.mk (below_step (by repeat (first | (with_reducible first | exact HB.out | apply bA | apply bN | apply bD | refine below_set ?_ GE292.out) | exact HB.out)) hb)
      clear HO_8
      clear HO318
      clear HO321
      clear BK292
      clear HB
      have HO_8 := n0_
      have HO318 := n1_
      have HO321 := n2_
      have HO325 := n3_
      have BK292 := n4_
      have HB := n5_
      clear n0_ n1_ n2_ n3_ n4_ n5_
      clear hb ho61
      refine hK.out _ _ ⟨(blk_cell BK292.out 0).trans rfl, (blk_cell BK292.out 1).trans rfl, (blk_cell BK292.out 2).trans rfl, (blk_cell BK292.out 3).trans rfl, (blk_cell BK292.out 4).trans rfl, ((HB.out.cell (World.block_lt_of_cell? w _ hw315_0)).trans hw315_0), ((HB.out.cell (World.block_lt_of_cell? w _ hw315_1)).trans hw315_1), ((HB.out.cell (World.block_lt_of_cell? w _ hw315_2)).trans hw315_2), ((HB.out.cell (World.block_lt_of_cell? w _ hw315_3)).trans hw315_3), ((HB.out.cell (World.block_lt_of_cell? w _ hw315_4)).trans hw315_4), ((HB.out.cell (World.block_lt_of_cell? w _ hw315_5)).trans hw315_5), ((HB.out.cell (World.block_lt_of_cell? w _ hw322_0)).trans hw322_0), ((HB.out.cell (World.block_lt_of_cell? w _ hw322_1)).trans hw322_1), ((HB.out.cell (World.block_lt_of_cell? w _ hw322_2)).trans hw322_2), ((HB.out.cell (World.block_lt_of_cell? w _ hw322_3)).trans hw322_3), ((HB.out.cell (World.block_lt_of_cell? w _ hw322_4)).trans hw322_4), ((HB.out.cell (World.block_lt_of_cell? w _ hw322_5)).trans hw322_5)⟩ (fun hHeld => ?_)
      clear hK K
      refine norm_ (a' := ?_) ?_ ?_
      rotate_left
      ·show Act.put _ (some 82) _ = _
       simp only [Act.put, sA, sZ, sS, i64_w, i32_w]
       rfl
      exact norm_ (by simp only [putAll, Act.put, List.setIfInBounds_toArray, List.set_cons_zero, List.set_cons_succ]) (hCont (.slice Ao59 y316.length co59, v320, v324) _ ⟨hHeld, (by (with_reducible repeat (first | apply Kd.rA | apply Kd.rN | apply Kd.rD)); exact Kd.R_mono HO318.out (fun _ hk => ⟨hk.2, hk.1⟩)), (by (with_reducible repeat (first | apply Kd.rA | apply Kd.rN | apply Kd.rD)); exact HO321.out), (by (with_reducible repeat (first | apply Kd.rA | apply Kd.rN | apply Kd.rD)); exact Kd.R_mono HO325.out (fun _ hk => hk.2)), (by (with_reducible repeat (first | apply Kd.rA | apply Kd.rN | apply Kd.rD)); exact Kd.R_mono HO_8.out (fun _ hk => hk.2)), (by (with_reducible repeat (first | refine blk_drewN ?_ _ | refine blk_drew ?_ | refine blk_alloc ?_ _)); exact BK292.out), (by repeat (first | (with_reducible first | exact HB.out | apply bA | apply bN | apply bD | refine below_set ?_ GE292.out) | exact HB.out))⟩)
     ·skip
      refine Kd.R_lit_step k58 _ 58 ?hg (N := 82) ?hd (xs := ([(⟨(rd_T58 l1 x10_1).f0, (⟨(rd_T50 l0 x9_1).f0, (rd_T50 l0 x9_1).f1, (rd_T50 l0 x9_1).f2, (rd_T50 l0 x9_1).f3, (rd_T50 l0 x9_1).f4⟩ : S50)⟩ : S58)] : List (S58))) (inner := [.int .i64 ((rd_T58 l1 x10_1).f0), .string ((rd_T50 l0 x9_1).f0), .int .i64 ((rd_T50 l0 x9_1).f1), .bool ((rd_T50 l0 x9_1).f2), .bool ((rd_T50 l0 x9_1).f3), .bool ((rd_T50 l0 x9_1).f4)]) (ok := fun _ => True) (okp := fun _ => True) ?hr ?hp (fun _ hk => hk) trivial (Below.refl _ _) (Nat.le_refl _) (by simp) ?_; (case hd => rfl); (case hg => rfl); (case hr => first | (go_simp; done) | (go_simp; rfl)); (case hp => exact (Reps.c6 (show Kd.M k58 _ _ _ (⟨(rd_T58 l1 x10_1).f0, (⟨(rd_T50 l0 x9_1).f0, (rd_T50 l0 x9_1).f1, (rd_T50 l0 x9_1).f2, (rd_T50 l0 x9_1).f3, (rd_T50 l0 x9_1).f4⟩ : S50)⟩ : S58) [.int .i64 ((rd_T58 l1 x10_1).f0), .string ((rd_T50 l0 x9_1).f0), .int .i64 ((rd_T50 l0 x9_1).f1), .bool ((rd_T50 l0 x9_1).f2), .bool ((rd_T50 l0 x9_1).f3), .bool ((rd_T50 l0 x9_1).f4)] from (k58_mkM _ _ _ (⟨(rd_T58 l1 x10_1).f0, (⟨(rd_T50 l0 x9_1).f0, (rd_T50 l0 x9_1).f1, (rd_T50 l0 x9_1).f2, (rd_T50 l0 x9_1).f3, (rd_T50 l0 x9_1).f4⟩ : S50)⟩ : S58) )) (Reps.none _ _)))
      intro v324 w58 ho59 hb hg_ hnew_
      clear hg_ hnew_
      (first | rw [← Ny323.out] at ho59 | (simp only [Int.reduceToNat] at ho59; rw [← Ny323.out] at ho59))
      have n0_ := Aside0.mk (Kd.R_below (by (with_reducible repeat (first | apply Kd.rA | apply Kd.rN | apply Kd.rD)); exact HO_7.out) hb)
      have n1_ := Aside0.mk (Kd.R_elder' (by (with_reducible repeat (first | apply Kd.rA | apply Kd.rN | apply Kd.rD)); exact HO_8.out) (Kd.R_base ho59) hb)
      have n2_ := Aside0.mk (Kd.R_below (by (with_reducible repeat (first | apply Kd.rA | apply Kd.rN | apply Kd.rD)); exact HO318.out) hb)
      have n3_ := Aside0.mk (Kd.R_lower (Kd.R_new' ho59 (Kd.R_lt (by (with_reducible repeat (first | apply Kd.rA | apply Kd.rN | apply Kd.rD)); exact HO_8.out))) (below_size (by repeat (first | (with_reducible first | exact HB.out | apply bA | apply bN | apply bD | refine below_set ?_ GE292.out) | exact HB.out))))
      have n4_ := Aside0.mk (blk_below (g := gb292) (o := .cells #[.string ((rd_T50 l0 x9_1).f0), .int .i64 ((rd_T50 l0 x9_1).f1), .bool ((rd_T50 l0 x9_1).f2), .bool ((rd_T50 l0 x9_1).f3), .bool ((rd_T50 l0 x9_1).f4)] 50 (0, 0)) (by (with_reducible repeat (first | refine blk_drewN ?_ _ | refine blk_drew ?_ | refine blk_alloc ?_ _)); exact BK292.out) hb)
      have n5_ := Aside0.mk (below_step (by repeat (first | (with_reducible first | exact HB.out | apply bA | apply bN | apply bD | refine below_set ?_ GE292.out) | exact HB.out)) hb)
      clear HO_7
      clear HO_8
      clear HO318
      clear BK292
      clear HB
      have HO_7 := n0_
      have HO_8 := n1_
      have HO318 := n2_
      have HO325 := n3_
      have BK292 := n4_
      have HB := n5_
      clear n0_ n1_ n2_ n3_ n4_ n5_
      clear hb ho59
      obtain ⟨Ao61, co61, eo61⟩ := Kd.R_slice HO318.out
      (first | subst eo61 | (injection eo61 with f1_ f2_ f3_; have f4_ := f1_.symm; have f5_ := f3_.symm; clear f1_ f2_ f3_; subst f4_; subst f5_))
      refine hK.out _ _ ⟨(blk_cell BK292.out 0).trans rfl, (blk_cell BK292.out 1).trans rfl, (blk_cell BK292.out 2).trans rfl, (blk_cell BK292.out 3).trans rfl, (blk_cell BK292.out 4).trans rfl, ((HB.out.cell (World.block_lt_of_cell? w _ hw315_0)).trans hw315_0), ((HB.out.cell (World.block_lt_of_cell? w _ hw315_1)).trans hw315_1), ((HB.out.cell (World.block_lt_of_cell? w _ hw315_2)).trans hw315_2), ((HB.out.cell (World.block_lt_of_cell? w _ hw315_3)).trans hw315_3), ((HB.out.cell (World.block_lt_of_cell? w _ hw315_4)).trans hw315_4), ((HB.out.cell (World.block_lt_of_cell? w _ hw315_5)).trans hw315_5), ((HB.out.cell (World.block_lt_of_cell? w _ hw322_0)).trans hw322_0), ((HB.out.cell (World.block_lt_of_cell? w _ hw322_1)).trans hw322_1), ((HB.out.cell (World.block_lt_of_cell? w _ hw322_2)).trans hw322_2), ((HB.out.cell (World.block_lt_of_cell? w _ hw322_3)).trans hw322_3), ((HB.out.cell (World.block_lt_of_cell? w _ hw322_4)).trans hw322_4), ((HB.out.cell (World.block_lt_of_cell? w _ hw322_5)).trans hw322_5)⟩ (fun hHeld => ?_)
      clear hK K
      refine norm_ (a' := ?_) ?_ ?_
      rotate_left
      ·show Act.put _ (some 82) _ = _
       simp only [Act.put, sA, sZ, sS, i64_w, i32_w]
       rfl
      refine one_ (i := 7) (N := some 73) #[true, true, true, true, true, true, true, true, true, true, true, true, true, true, true, true, true, false, false, false] rfl rfl (one_of HT_.out (by kernel_rfl)) (by decide) (fun K hK => ?_)
      refine Kd.R_append_rows_step k50 (w0 := w) w.heap.size (by rfl) (.tmp 66) (.tmp 72) 22 50 (.agg #[(.string ⟨#[]⟩), (.int .i64 0), (.bool false), (.bool false), (.bool false)]) 32 rfl Try.underlying22 info50 rfl (by decide) (by omega) (.slice Ao53 x7_1.length co53) x7_1 y316 _ _ _ (fun k_ => some k_ ≠ (.slice Ao61 y316.length co61 : Value).ownBlock ∧ k_ ≠ gb292) (fun _ => False) rfl rfl ?aO ?aR (fun _ _ h => h) (fun _ h => h.elim) ?aF ?aB ?aS ?aL ?_
      (case aR => repeat (first | exact (Kd.R_reads' HO318.out).2.2 | (with_reducible apply Kd.C_alloc) | (with_reducible apply Kd.C_drewN) | (with_reducible apply Kd.C_drew)))
      (case aB => exact (by repeat (first | (with_reducible first | exact HB.out | apply bA | apply bN | apply bD | refine below_set ?_ GE292.out) | exact HB.out)))
      (case aF => exact (fun k_ hk => ⟨Kd.fresh' (Kd.R_lt (by (with_reducible repeat (first | apply Kd.rA | apply Kd.rN | apply Kd.rD)); exact HO318.out)) k_ hk, Kd.freshB (g := gb292) (o := .cells #[.string ((rd_T50 l0 x9_1).f0), .int .i64 ((rd_T50 l0 x9_1).f1), .bool ((rd_T50 l0 x9_1).f2), .bool ((rd_T50 l0 x9_1).f3), .bool ((rd_T50 l0 x9_1).f4)] 50 (0, 0)) (by (with_reducible repeat (first | refine blk_drewN ?_ _ | refine blk_drew ?_ | refine blk_alloc ?_ _)); exact BK292.out) k_ hk⟩))
      (case aO => exact (by (with_reducible repeat (first | apply Kd.rA | apply Kd.rN | apply Kd.rD)); exact Kd.R_mono HO_7.out (fun _ hk => ⟨hk.2, hk.1⟩)))
      (case aS => exact (below_size (by repeat (first | (with_reducible first | exact HB.out | apply bA | apply bN | apply bD | refine below_set ?_ GE292.out) | exact HB.out))))
      (case aL => have := LMc46.out; omega)
      intro v320 w60 ho hb hg hat
      rw [← Ny319.out] at ho
      have n0_ := Aside0.mk (Kd.R_over' (by (with_reducible repeat (first | apply Kd.rA | apply Kd.rN | apply Kd.rD)); exact HO_8.out) (Kd.R_typed (by (with_reducible repeat (first | apply Kd.rA | apply Kd.rN | apply Kd.rD)); exact HO_7.out)) (by decide) hg)
      have n1_ := Aside0.mk (blk_grown (g := gb292) (o := .cells #[.string ((rd_T50 l0 x9_1).f0), .int .i64 ((rd_T50 l0 x9_1).f1), .bool ((rd_T50 l0 x9_1).f2), .bool ((rd_T50 l0 x9_1).f3), .bool ((rd_T50 l0 x9_1).f4)] 50 (0, 0)) (by (with_reducible repeat (first | refine blk_drewN ?_ _ | refine blk_drew ?_ | refine blk_alloc ?_ _)); exact BK292.out) hg (Kd.R_away HO_7.out (fun _ hk => hk.1)))
      have n2_ := Aside0.mk (Kd.R_after (ok := (fun k_ => k_ ≠ gb292)) (by (with_reducible repeat (first | apply Kd.rA | apply Kd.rN | apply Kd.rD)); exact Kd.R_mono HO318.out (fun _ hk => ⟨hk.2, hk.1.2⟩)) hg hat)
      have n3_ := Aside0.mk (Kd.R_over' (by (with_reducible repeat (first | apply Kd.rA | apply Kd.rN | apply Kd.rD)); exact HO325.out) (Kd.R_typed (by (with_reducible repeat (first | apply Kd.rA | apply Kd.rN | apply Kd.rD)); exact HO_7.out)) (by decide) hg)
      have n4_ := Aside0.mk (hb)
      have n5_ := Aside0.mk (ho)
      clear HO_8
      clear BK292
      clear HO318
      clear HO325
      clear HB
      clear HO_7
      have HO_8 := n0_
      have BK292 := n1_
      have HO318 := n2_
      have HO325 := n3_
      have HB := n4_
      have HO321 := n5_
      clear n0_ n1_ n2_ n3_ n4_ n5_
      clear ho hb hg hat
      refine hK.out _ _ ⟨(blk_cell BK292.out 0).trans rfl, (blk_cell BK292.out 1).trans rfl, (blk_cell BK292.out 2).trans rfl, (blk_cell BK292.out 3).trans rfl, (blk_cell BK292.out 4).trans rfl, ((HB.out.cell (World.block_lt_of_cell? w _ hw315_0)).trans hw315_0), ((HB.out.cell (World.block_lt_of_cell? w _ hw315_1)).trans hw315_1), ((HB.out.cell (World.block_lt_of_cell? w _ hw315_2)).trans hw315_2), ((HB.out.cell (World.block_lt_of_cell? w _ hw315_3)).trans hw315_3), ((HB.out.cell (World.block_lt_of_cell? w _ hw315_4)).trans hw315_4), ((HB.out.cell (World.block_lt_of_cell? w _ hw315_5)).trans hw315_5), ((HB.out.cell (World.block_lt_of_cell? w _ hw322_0)).trans hw322_0), ((HB.out.cell (World.block_lt_of_cell? w _ hw322_1)).trans hw322_1), ((HB.out.cell (World.block_lt_of_cell? w _ hw322_2)).trans hw322_2), ((HB.out.cell (World.block_lt_of_cell? w _ hw322_3)).trans hw322_3), ((HB.out.cell (World.block_lt_of_cell? w _ hw322_4)).trans hw322_4), ((HB.out.cell (World.block_lt_of_cell? w _ hw322_5)).trans hw322_5)⟩ (fun hHeld => ?_)
      clear hK K
      refine norm_ (a' := ?_) ?_ ?_
      rotate_left
      ·show Act.put _ (some 73) _ = _
       simp only [Act.put, sA, sZ, sS, i64_w, i32_w]
       rfl
      exact norm_ (by simp only [putAll, Act.put, List.setIfInBounds_toArray, List.set_cons_zero, List.set_cons_succ]) (hCont (.slice Ao61 y316.length co61, v320, v324) _ ⟨hHeld, (by (with_reducible repeat (first | apply Kd.rA | apply Kd.rN | apply Kd.rD)); exact Kd.R_mono HO318.out (fun _ hk => ⟨hk.2, hk.1⟩)), (by (with_reducible repeat (first | apply Kd.rA | apply Kd.rN | apply Kd.rD)); exact HO321.out), (by (with_reducible repeat (first | apply Kd.rA | apply Kd.rN | apply Kd.rD)); exact Kd.R_mono HO325.out (fun _ hk => hk.2)), (by (with_reducible repeat (first | apply Kd.rA | apply Kd.rN | apply Kd.rD)); exact Kd.R_mono HO_8.out (fun _ hk => hk.2)), (by (with_reducible repeat (first | refine blk_drewN ?_ _ | refine blk_drew ?_ | refine blk_alloc ?_ _)); exact BK292.out), (by repeat (first | (with_reducible first | exact HB.out | apply bA | apply bN | apply bD | refine below_set ?_ GE292.out) | exact HB.out))⟩)
    ·skip
     refine Kd.R_lit_step k58 _ 58 ?hg (N := 82) ?hd (xs := ([(⟨(rd_T58 l1 x10_1).f0, (⟨(rd_T50 l0 x9_1).f0, (rd_T50 l0 x9_1).f1, (rd_T50 l0 x9_1).f2, (rd_T50 l0 x9_1).f3, (rd_T50 l0 x9_1).f4⟩ : S50)⟩ : S58)] : List (S58))) (inner := [.int .i64 ((rd_T58 l1 x10_1).f0), .string ((rd_T50 l0 x9_1).f0), .int .i64 ((rd_T50 l0 x9_1).f1), .bool ((rd_T50 l0 x9_1).f2), .bool ((rd_T50 l0 x9_1).f3), .bool ((rd_T50 l0 x9_1).f4)]) (ok := fun _ => True) (okp := fun _ => True) ?hr ?hp (fun _ hk => hk) trivial (Below.refl _ _) (Nat.le_refl _) (by simp) ?_; (case hd => rfl); (case hg => rfl); (case hr => first | (go_simp; done) | (go_simp; rfl)); (case hp => exact (Reps.c6 (show Kd.M k58 _ _ _ (⟨(rd_T58 l1 x10_1).f0, (⟨(rd_T50 l0 x9_1).f0, (rd_T50 l0 x9_1).f1, (rd_T50 l0 x9_1).f2, (rd_T50 l0 x9_1).f3, (rd_T50 l0 x9_1).f4⟩ : S50)⟩ : S58) [.int .i64 ((rd_T58 l1 x10_1).f0), .string ((rd_T50 l0 x9_1).f0), .int .i64 ((rd_T50 l0 x9_1).f1), .bool ((rd_T50 l0 x9_1).f2), .bool ((rd_T50 l0 x9_1).f3), .bool ((rd_T50 l0 x9_1).f4)] from (k58_mkM _ _ _ (⟨(rd_T58 l1 x10_1).f0, (⟨(rd_T50 l0 x9_1).f0, (rd_T50 l0 x9_1).f1, (rd_T50 l0 x9_1).f2, (rd_T50 l0 x9_1).f3, (rd_T50 l0 x9_1).f4⟩ : S50)⟩ : S58) )) (Reps.none _ _)))
     intro v324 w56 ho57 hb hg_ hnew_
     clear hg_ hnew_
     (first | rw [← Ny323.out] at ho57 | (simp only [Int.reduceToNat] at ho57; rw [← Ny323.out] at ho57))
     have n0_ := Aside0.mk (Kd.R_below (by (with_reducible repeat (first | apply Kd.rA | apply Kd.rN | apply Kd.rD)); exact HO_7.out) hb)
     have n1_ := Aside0.mk (Kd.R_elder' (by (with_reducible repeat (first | apply Kd.rA | apply Kd.rN | apply Kd.rD)); exact HO_8.out) (Kd.R_base ho57) hb)
     have n2_ := Aside0.mk (Kd.R_lower (Kd.R_new' ho57 (Kd.R_lt (by (with_reducible repeat (first | apply Kd.rA | apply Kd.rN | apply Kd.rD)); exact HO_8.out))) (below_size (by repeat (first | (with_reducible first | exact HB.out | apply bA | apply bN | apply bD | refine below_set ?_ GE292.out) | exact HB.out))))
     have n3_ := Aside0.mk (blk_below (g := gb292) (o := .cells #[.string ((rd_T50 l0 x9_1).f0), .int .i64 ((rd_T50 l0 x9_1).f1), .bool ((rd_T50 l0 x9_1).f2), .bool ((rd_T50 l0 x9_1).f3), .bool ((rd_T50 l0 x9_1).f4)] 50 (0, 0)) (by (with_reducible repeat (first | refine blk_drewN ?_ _ | refine blk_drew ?_ | refine blk_alloc ?_ _)); exact BK292.out) hb)
     have n4_ := Aside0.mk (below_step (by repeat (first | (with_reducible first | exact HB.out | apply bA | apply bN | apply bD | refine below_set ?_ GE292.out) | exact HB.out)) hb)
     clear HO_7
     clear HO_8
     clear BK292
     clear HB
     have HO_7 := n0_
     have HO_8 := n1_
     have HO325 := n2_
     have BK292 := n3_
     have HB := n4_
     clear n0_ n1_ n2_ n3_ n4_
     clear hb ho57
     refine hK.out _ _ ⟨(blk_cell BK292.out 0).trans rfl, (blk_cell BK292.out 1).trans rfl, (blk_cell BK292.out 2).trans rfl, (blk_cell BK292.out 3).trans rfl, (blk_cell BK292.out 4).trans rfl, ((HB.out.cell (World.block_lt_of_cell? w _ hw315_0)).trans hw315_0), ((HB.out.cell (World.block_lt_of_cell? w _ hw315_1)).trans hw315_1), ((HB.out.cell (World.block_lt_of_cell? w _ hw315_2)).trans hw315_2), ((HB.out.cell (World.block_lt_of_cell? w _ hw315_3)).trans hw315_3), ((HB.out.cell (World.block_lt_of_cell? w _ hw315_4)).trans hw315_4), ((HB.out.cell (World.block_lt_of_cell? w _ hw315_5)).trans hw315_5), ((HB.out.cell (World.block_lt_of_cell? w _ hw322_0)).trans hw322_0), ((HB.out.cell (World.block_lt_of_cell? w _ hw322_1)).trans hw322_1), ((HB.out.cell (World.block_lt_of_cell? w _ hw322_2)).trans hw322_2), ((HB.out.cell (World.block_lt_of_cell? w _ hw322_3)).trans hw322_3), ((HB.out.cell (World.block_lt_of_cell? w _ hw322_4)).trans hw322_4), ((HB.out.cell (World.block_lt_of_cell? w _ hw322_5)).trans hw322_5)⟩ (fun hHeld => ?_)
     clear hK K
     refine norm_ (a' := ?_) ?_ ?_
     rotate_left
     ·show Act.put _ (some 82) _ = _
      simp only [Act.put, sA, sZ, sS, i64_w, i32_w]
      rfl
     refine one_ (i := 6) (N := some 72) #[true, true, true, true, true, true, true, false, true, true, true, true, true, true, true, true, true, false, false, false] rfl rfl (one_of HT_.out (by kernel_rfl)) (by decide) (fun K hK => ?_)
     refine Kd.R_lit_step k50 _ 50 ?hg (N := 72) ?hd (xs := ([(⟨(rd_T58 l1 x10_1).f1.f0, (rd_T58 l1 x10_1).f1.f1, (rd_T58 l1 x10_1).f1.f2, (rd_T58 l1 x10_1).f1.f3, (rd_T58 l1 x10_1).f1.f4⟩ : S50)] : List (S50))) (inner := [.string ((rd_T58 l1 x10_1).f1.f0), .int .i64 ((rd_T58 l1 x10_1).f1.f1), .bool ((rd_T58 l1 x10_1).f1.f2), .bool ((rd_T58 l1 x10_1).f1.f3), .bool ((rd_T58 l1 x10_1).f1.f4)]) (ok := fun _ => True) (okp := fun _ => True) ?hr ?hp (fun _ hk => hk) trivial (Below.refl _ _) (Nat.le_refl _) (by simp) ?_; (case hd => rfl); (case hg => rfl); (case hr => first | (go_simp; done) | (go_simp; rfl)); (case hp => exact (Reps.c5 (show Kd.M k50 _ _ _ (⟨(rd_T58 l1 x10_1).f1.f0, (rd_T58 l1 x10_1).f1.f1, (rd_T58 l1 x10_1).f1.f2, (rd_T58 l1 x10_1).f1.f3, (rd_T58 l1 x10_1).f1.f4⟩ : S50) [.string ((rd_T58 l1 x10_1).f1.f0), .int .i64 ((rd_T58 l1 x10_1).f1.f1), .bool ((rd_T58 l1 x10_1).f1.f2), .bool ((rd_T58 l1 x10_1).f1.f3), .bool ((rd_T58 l1 x10_1).f1.f4)] from (k50_mkM _ _ _ (⟨(rd_T58 l1 x10_1).f1.f0, (rd_T58 l1 x10_1).f1.f1, (rd_T58 l1 x10_1).f1.f2, (rd_T58 l1 x10_1).f1.f3, (rd_T58 l1 x10_1).f1.f4⟩ : S50) )) (Reps.none _ _)))
     intro v317 w58 ho59 hb hg_ hnew_
     clear hg_ hnew_
     (first | rw [← Ny316.out] at ho59 | (simp only [Int.reduceToNat] at ho59; rw [← Ny316.out] at ho59))
     have n0_ := Aside0.mk (Kd.R_elder' (by (with_reducible repeat (first | apply Kd.rA | apply Kd.rN | apply Kd.rD)); exact HO_7.out) (Kd.R_base ho59) hb)
     have n1_ := Aside0.mk (Kd.R_below (by (with_reducible repeat (first | apply Kd.rA | apply Kd.rN | apply Kd.rD)); exact HO_8.out) hb)
     have n2_ := Aside0.mk (Kd.R_below (by (with_reducible repeat (first | apply Kd.rA | apply Kd.rN | apply Kd.rD)); exact HO325.out) hb)
     have n3_ := Aside0.mk (Kd.R_lower (Kd.R_newB (Kd.R_new' ho59 (Kd.R_lt (by (with_reducible repeat (first | apply Kd.rA | apply Kd.rN | apply Kd.rD)); exact HO_7.out))) (g := gb292) (o := .cells #[.string ((rd_T50 l0 x9_1).f0), .int .i64 ((rd_T50 l0 x9_1).f1), .bool ((rd_T50 l0 x9_1).f2), .bool ((rd_T50 l0 x9_1).f3), .bool ((rd_T50 l0 x9_1).f4)] 50 (0, 0)) (by (with_reducible repeat (first | refine blk_drewN ?_ _ | refine blk_drew ?_ | refine blk_alloc ?_ _)); exact BK292.out)) (below_size (by repeat (first | (with_reducible first | exact HB.out | apply bA | apply bN | apply bD | refine below_set ?_ GE292.out) | exact HB.out))))
     have n4_ := Aside0.mk (blk_below (g := gb292) (o := .cells #[.string ((rd_T50 l0 x9_1).f0), .int .i64 ((rd_T50 l0 x9_1).f1), .bool ((rd_T50 l0 x9_1).f2), .bool ((rd_T50 l0 x9_1).f3), .bool ((rd_T50 l0 x9_1).f4)] 50 (0, 0)) (by (with_reducible repeat (first | refine blk_drewN ?_ _ | refine blk_drew ?_ | refine blk_alloc ?_ _)); exact BK292.out) hb)
     have n5_ := Aside0.mk (below_step (by repeat (first | (with_reducible first | exact HB.out | apply bA | apply bN | apply bD | refine below_set ?_ GE292.out) | exact HB.out)) hb)
     clear HO_7
     clear HO_8
     clear HO325
     clear BK292
     clear HB
     have HO_7 := n0_
     have HO_8 := n1_
     have HO325 := n2_
     have HO318 := n3_
     have BK292 := n4_
     have HB := n5_
     clear n0_ n1_ n2_ n3_ n4_ n5_
     clear hb ho59
     obtain ⟨Ao61, co61, eo61⟩ := Kd.R_slice HO318.out
     (first | subst eo61 | (injection eo61 with f1_ f2_ f3_; have f4_ := f1_.symm; have f5_ := f3_.symm; clear f1_ f2_ f3_; subst f4_; subst f5_))
     refine hK.out _ _ ⟨(blk_cell BK292.out 0).trans rfl, (blk_cell BK292.out 1).trans rfl, (blk_cell BK292.out 2).trans rfl, (blk_cell BK292.out 3).trans rfl, (blk_cell BK292.out 4).trans rfl, ((HB.out.cell (World.block_lt_of_cell? w _ hw315_0)).trans hw315_0), ((HB.out.cell (World.block_lt_of_cell? w _ hw315_1)).trans hw315_1), ((HB.out.cell (World.block_lt_of_cell? w _ hw315_2)).trans hw315_2), ((HB.out.cell (World.block_lt_of_cell? w _ hw315_3)).trans hw315_3), ((HB.out.cell (World.block_lt_of_cell? w _ hw315_4)).trans hw315_4), ((HB.out.cell (World.block_lt_of_cell? w _ hw315_5)).trans hw315_5), ((HB.out.cell (World.block_lt_of_cell? w _ hw322_0)).trans hw322_0), ((HB.out.cell (World.block_lt_of_cell? w _ hw322_1)).trans hw322_1), ((HB.out.cell (World.block_lt_of_cell? w _ hw322_2)).trans hw322_2), ((HB.out.cell (World.block_lt_of_cell? w _ hw322_3)).trans hw322_3), ((HB.out.cell (World.block_lt_of_cell? w _ hw322_4)).trans hw322_4), ((HB.out.cell (World.block_lt_of_cell? w _ hw322_5)).trans hw322_5)⟩ (fun hHeld => ?_)
     clear hK K
     refine norm_ (a' := ?_) ?_ ?_
     rotate_left
     ·show Act.put _ (some 72) _ = _
      simp only [Act.put, sA, sZ, sS, i64_w, i32_w]
      rfl
     refine one_ (i := 7) (N := some 73) #[true, true, true, true, true, true, true, true, true, true, true, true, true, true, true, true, true, false, false, false] rfl rfl (one_of HT_.out (by kernel_rfl)) (by decide) (fun K hK => ?_)
     refine Kd.R_append_rows_step k50 (w0 := w) w.heap.size (by rfl) (.tmp 66) (.tmp 72) 22 50 (.agg #[(.string ⟨#[]⟩), (.int .i64 0), (.bool false), (.bool false), (.bool false)]) 32 rfl Try.underlying22 info50 rfl (by decide) (by omega) (.slice Ao53 x7_1.length co53) x7_1 y316 _ _ _ (fun k_ => some k_ ≠ (.slice Ao61 y316.length co61 : Value).ownBlock ∧ k_ ≠ gb292) (fun _ => False) rfl rfl ?aO ?aR (fun _ _ h => h) (fun _ h => h.elim) ?aF ?aB ?aS ?aL ?_
     (case aR => repeat (first | exact (Kd.R_reads' HO318.out).2.2 | (with_reducible apply Kd.C_alloc) | (with_reducible apply Kd.C_drewN) | (with_reducible apply Kd.C_drew)))
     (case aB => exact (by repeat (first | (with_reducible first | exact HB.out | apply bA | apply bN | apply bD | refine below_set ?_ GE292.out) | exact HB.out)))
     (case aF => exact (fun k_ hk => ⟨Kd.fresh' (Kd.R_lt (by (with_reducible repeat (first | apply Kd.rA | apply Kd.rN | apply Kd.rD)); exact HO318.out)) k_ hk, Kd.freshB (g := gb292) (o := .cells #[.string ((rd_T50 l0 x9_1).f0), .int .i64 ((rd_T50 l0 x9_1).f1), .bool ((rd_T50 l0 x9_1).f2), .bool ((rd_T50 l0 x9_1).f3), .bool ((rd_T50 l0 x9_1).f4)] 50 (0, 0)) (by (with_reducible repeat (first | refine blk_drewN ?_ _ | refine blk_drew ?_ | refine blk_alloc ?_ _)); exact BK292.out) k_ hk⟩))
     (case aO => exact (by (with_reducible repeat (first | apply Kd.rA | apply Kd.rN | apply Kd.rD)); exact Kd.R_mono HO_7.out (fun _ hk => ⟨hk.2, hk.1⟩)))
     (case aS => exact (below_size (by repeat (first | (with_reducible first | exact HB.out | apply bA | apply bN | apply bD | refine below_set ?_ GE292.out) | exact HB.out))))
     (case aL => have := LMc46.out; omega)
     intro v320 w60 ho hb hg hat
     rw [← Ny319.out] at ho
     have n0_ := Aside0.mk (Kd.R_over' (by (with_reducible repeat (first | apply Kd.rA | apply Kd.rN | apply Kd.rD)); exact HO_8.out) (Kd.R_typed (by (with_reducible repeat (first | apply Kd.rA | apply Kd.rN | apply Kd.rD)); exact HO_7.out)) (by decide) hg)
     have n1_ := Aside0.mk (blk_grown (g := gb292) (o := .cells #[.string ((rd_T50 l0 x9_1).f0), .int .i64 ((rd_T50 l0 x9_1).f1), .bool ((rd_T50 l0 x9_1).f2), .bool ((rd_T50 l0 x9_1).f3), .bool ((rd_T50 l0 x9_1).f4)] 50 (0, 0)) (by (with_reducible repeat (first | refine blk_drewN ?_ _ | refine blk_drew ?_ | refine blk_alloc ?_ _)); exact BK292.out) hg (Kd.R_away HO_7.out (fun _ hk => hk.1)))
     have n2_ := Aside0.mk (Kd.R_over' (by (with_reducible repeat (first | apply Kd.rA | apply Kd.rN | apply Kd.rD)); exact HO325.out) (Kd.R_typed (by (with_reducible repeat (first | apply Kd.rA | apply Kd.rN | apply Kd.rD)); exact HO_7.out)) (by decide) hg)
     have n3_ := Aside0.mk (Kd.R_after (ok := (fun k_ => k_ ≠ gb292)) (by (with_reducible repeat (first | apply Kd.rA | apply Kd.rN | apply Kd.rD)); exact Kd.R_mono HO318.out (fun _ hk => ⟨hk.2, hk.1.2⟩)) hg hat)
     have n4_ := Aside0.mk (hb)
     have n5_ := Aside0.mk (ho)
     clear HO_8
     clear BK292
     clear HO325
     clear HO318
     clear HB
     clear HO_7
     have HO_8 := n0_
     have BK292 := n1_
     have HO325 := n2_
     have HO318 := n3_
     have HB := n4_
     have HO321 := n5_
     clear n0_ n1_ n2_ n3_ n4_ n5_
     clear ho hb hg hat
     refine hK.out _ _ ⟨(blk_cell BK292.out 0).trans rfl, (blk_cell BK292.out 1).trans rfl, (blk_cell BK292.out 2).trans rfl, (blk_cell BK292.out 3).trans rfl, (blk_cell BK292.out 4).trans rfl, ((HB.out.cell (World.block_lt_of_cell? w _ hw315_0)).trans hw315_0), ((HB.out.cell (World.block_lt_of_cell? w _ hw315_1)).trans hw315_1), ((HB.out.cell (World.block_lt_of_cell? w _ hw315_2)).trans hw315_2), ((HB.out.cell (World.block_lt_of_cell? w _ hw315_3)).trans hw315_3), ((HB.out.cell (World.block_lt_of_cell? w _ hw315_4)).trans hw315_4), ((HB.out.cell (World.block_lt_of_cell? w _ hw315_5)).trans hw315_5), ((HB.out.cell (World.block_lt_of_cell? w _ hw322_0)).trans hw322_0), ((HB.out.cell (World.block_lt_of_cell? w _ hw322_1)).trans hw322_1), ((HB.out.cell (World.block_lt_of_cell? w _ hw322_2)).trans hw322_2), ((HB.out.cell (World.block_lt_of_cell? w _ hw322_3)).trans hw322_3), ((HB.out.cell (World.block_lt_of_cell? w _ hw322_4)).trans hw322_4), ((HB.out.cell (World.block_lt_of_cell? w _ hw322_5)).trans hw322_5)⟩ (fun hHeld => ?_)
     clear hK K
     refine norm_ (a' := ?_) ?_ ?_
     rotate_left
     ·show Act.put _ (some 73) _ = _
      simp only [Act.put, sA, sZ, sS, i64_w, i32_w]
      rfl
     exact norm_ (by simp only [putAll, Act.put, List.setIfInBounds_toArray, List.set_cons_zero, List.set_cons_succ]) (hCont (.slice Ao61 y316.length co61, v320, v324) _ ⟨hHeld, (by (with_reducible repeat (first | apply Kd.rA | apply Kd.rN | apply Kd.rD)); exact Kd.R_mono HO318.out (fun _ hk => ⟨hk.2, hk.1⟩)), (by (with_reducible repeat (first | apply Kd.rA | apply Kd.rN | apply Kd.rD)); exact HO321.out), (by (with_reducible repeat (first | apply Kd.rA | apply Kd.rN | apply Kd.rD)); exact Kd.R_mono HO325.out (fun _ hk => hk.2)), (by (with_reducible repeat (first | apply Kd.rA | apply Kd.rN | apply Kd.rD)); exact Kd.R_mono HO_8.out (fun _ hk => hk.2)), (by (with_reducible repeat (first | refine blk_drewN ?_ _ | refine blk_drew ?_ | refine blk_alloc ?_ _)); exact BK292.out), (by repeat (first | (with_reducible first | exact HB.out | apply bA | apply bN | apply bD | refine below_set ?_ GE292.out) | exact HB.out))⟩)
   rintro ⟨v317, v320, v324⟩ w62 ⟨hS_, h0_, h1_, h2_, h3_, h4_, h5_⟩
   have n0_ : Aside0 (Kd.R k50 50 w62 w.heap.size (fun k_ => some k_ ≠ (v320 : Value).ownBlock ∧ k_ ≠ gb292) v317 y316) := ⟨h0_⟩
   have n1_ : Aside0 (Kd.R k50 50 w62 w.heap.size (fun k_ => some k_ ≠ (v317 : Value).ownBlock ∧ k_ ≠ gb292) v320 y319) := ⟨h1_⟩
   have n2_ : Aside0 (Kd.R k58 58 w62 w.heap.size (fun k_ => some k_ ≠ (.slice Ao54 x8_1.length co54 : Value).ownBlock) v324 y323) := ⟨h2_⟩
   have n3_ : Aside0 (Kd.R k58 58 w62 w.heap.size (fun k_ => some k_ ≠ (v324 : Value).ownBlock) (.slice Ao54 x8_1.length co54) x8_1) := ⟨h3_⟩
   have n4_ : Aside0 (w62.heap[gb292]? = some (.cells #[.string ((rd_T50 l0 x9_1).f0), .int .i64 ((rd_T50 l0 x9_1).f1), .bool ((rd_T50 l0 x9_1).f2), .bool ((rd_T50 l0 x9_1).f3), .bool ((rd_T50 l0 x9_1).f4)] 50 (0, 0))) := ⟨h4_⟩
   have n5_ : Aside0 (Below w.heap.size w w62) := ⟨h5_⟩
   clear HO_7
   clear HO_8
   clear BK292
   clear HB
   clear h0_ h1_ h2_ h3_ h4_ h5_
   have HO318 := n0_
   have HO321 := n1_
   have HO325 := n2_
   have HO_8 := n3_
   have BK292 := n4_
   have HB := n5_
   clear n0_ n1_ n2_ n3_ n4_ n5_
   have hHeld : w62.cell? ⟨gb292, 0, none⟩ = some (.string ((rd_T50 l0 x9_1).f0)) ∧ w62.cell? ⟨gb292, 1, none⟩ = some (.int .i64 ((rd_T50 l0 x9_1).f1)) ∧ w62.cell? ⟨gb292, 2, none⟩ = some (.bool ((rd_T50 l0 x9_1).f2)) ∧ w62.cell? ⟨gb292, 3, none⟩ = some (.bool ((rd_T50 l0 x9_1).f3)) ∧ w62.cell? ⟨gb292, 4, none⟩ = some (.bool ((rd_T50 l0 x9_1).f4)) ∧ w62.cell? (ad277.add ((x10_1).toNat * 6)) = some (.int .i64 ((rd_T58 l1 x10_1).f0)) ∧ w62.cell? ⟨(ad277.add ((x10_1).toNat * 6)).block, (ad277.add ((x10_1).toNat * 6)).off + 1, none⟩ = some (.string ((rd_T58 l1 x10_1).f1.f0)) ∧ w62.cell? ⟨(ad277.add ((x10_1).toNat * 6)).block, (ad277.add ((x10_1).toNat * 6)).off + 2, none⟩ = some (.int .i64 ((rd_T58 l1 x10_1).f1.f1)) ∧ w62.cell? ⟨(ad277.add ((x10_1).toNat * 6)).block, (ad277.add ((x10_1).toNat * 6)).off + 3, none⟩ = some (.bool ((rd_T58 l1 x10_1).f1.f2)) ∧ w62.cell? ⟨(ad277.add ((x10_1).toNat * 6)).block, (ad277.add ((x10_1).toNat * 6)).off + 4, none⟩ = some (.bool ((rd_T58 l1 x10_1).f1.f3)) ∧ w62.cell? ⟨(ad277.add ((x10_1).toNat * 6)).block, (ad277.add ((x10_1).toNat * 6)).off + 5, none⟩ = some (.bool ((rd_T58 l1 x10_1).f1.f4)) ∧ w62.cell? (ad277.add ((x10_1).toNat * 6)) = some (.int .i64 ((rd_T58 l1 x10_1).f0)) ∧ w62.cell? ⟨(ad277.add ((x10_1).toNat * 6)).block, (ad277.add ((x10_1).toNat * 6)).off + 1, none⟩ = some (.string ((rd_T58 l1 x10_1).f1.f0)) ∧ w62.cell? ⟨(ad277.add ((x10_1).toNat * 6)).block, (ad277.add ((x10_1).toNat * 6)).off + 2, none⟩ = some (.int .i64 ((rd_T58 l1 x10_1).f1.f1)) ∧ w62.cell? ⟨(ad277.add ((x10_1).toNat * 6)).block, (ad277.add ((x10_1).toNat * 6)).off + 3, none⟩ = some (.bool ((rd_T58 l1 x10_1).f1.f2)) ∧ w62.cell? ⟨(ad277.add ((x10_1).toNat * 6)).block, (ad277.add ((x10_1).toNat * 6)).off + 4, none⟩ = some (.bool ((rd_T58 l1 x10_1).f1.f3)) ∧ w62.cell? ⟨(ad277.add ((x10_1).toNat * 6)).block, (ad277.add ((x10_1).toNat * 6)).off + 5, none⟩ = some (.bool ((rd_T58 l1 x10_1).f1.f4)) := hS_
   obtain ⟨Ao64, co64, eo64⟩ := Kd.R_slice HO325.out
   (first | subst eo64 | (injection eo64 with f1_ f2_ f3_; have f4_ := f1_.symm; have f5_ := f3_.symm; clear f1_ f2_ f3_; subst f4_; subst f5_))
   refine norm_ (a' := ?_) ?_ ?_
   rotate_left
   ·simp only [putAll, Act.put, List.setIfInBounds_toArray, List.set_cons_zero, List.set_cons_succ]
    rfl
   refine one_ (i := 17) (N := some 83) #[true, true, true, true, true, true, true, true, true, true, true, true, true, true, true, true, true, true, false, false] rfl rfl (one_of HT_.out (by kernel_rfl)) (by decide) (fun K hK => ?_)
   refine Kd.R_append_rows_step k58 (w0 := w) w.heap.size (by rfl) (.tmp 74) (.tmp 82) 31 58 (.agg #[(.int .i64 0), (.string ⟨#[]⟩), (.int .i64 0), (.bool false), (.bool false), (.bool false)]) 40 rfl Try.underlying31 info58 rfl (by decide) (by omega) (.slice Ao54 x8_1.length co54) x8_1 y323 _ _ _ (fun k_ => some k_ ≠ (.slice Ao64 y323.length co64 : Value).ownBlock) (fun _ => False) rfl rfl ?aO ?aR (fun _ _ h => h) (fun _ h => h.elim) ?aF ?aB ?aS ?aL ?_
   (case aR => repeat (first | exact (Kd.R_reads' HO325.out).2.2 | (with_reducible apply Kd.C_alloc) | (with_reducible apply Kd.C_drewN) | (with_reducible apply Kd.C_drew)))
   (case aB => exact (by repeat (first | (with_reducible first | exact HB.out | apply bA | apply bN | apply bD | refine below_set ?_ GE292.out) | exact HB.out)))
   (case aF => exact (fun k_ hk => Kd.fresh' (Kd.R_lt (by (with_reducible repeat (first | apply Kd.rA | apply Kd.rN | apply Kd.rD)); exact HO325.out)) k_ hk))
   (case aO => exact (by (with_reducible repeat (first | apply Kd.rA | apply Kd.rN | apply Kd.rD)); exact HO_8.out))
   (case aS => exact (below_size (by repeat (first | (with_reducible first | exact HB.out | apply bA | apply bN | apply bD | refine below_set ?_ GE292.out) | exact HB.out))))
   (case aL => have := LMc47.out; omega)
   intro v327 w63 ho hb hg hat
   rw [← Ny326.out] at ho
   have n0_ := Aside0.mk (blk_grown (g := gb292) (o := .cells #[.string ((rd_T50 l0 x9_1).f0), .int .i64 ((rd_T50 l0 x9_1).f1), .bool ((rd_T50 l0 x9_1).f2), .bool ((rd_T50 l0 x9_1).f3), .bool ((rd_T50 l0 x9_1).f4)] 50 (0, 0)) (by (with_reducible repeat (first | refine blk_drewN ?_ _ | refine blk_drew ?_ | refine blk_alloc ?_ _)); exact BK292.out) hg (Kd.R_ne HO_8.out BK292.out (by decide)))
   have n1_ := Aside0.mk (Kd.R_over' (by (with_reducible repeat (first | apply Kd.rA | apply Kd.rN | apply Kd.rD)); exact HO318.out) (Kd.R_typed (by (with_reducible repeat (first | apply Kd.rA | apply Kd.rN | apply Kd.rD)); exact HO_8.out)) (by decide) hg)
   have n2_ := Aside0.mk (Kd.R_over' (by (with_reducible repeat (first | apply Kd.rA | apply Kd.rN | apply Kd.rD)); exact HO321.out) (Kd.R_typed (by (with_reducible repeat (first | apply Kd.rA | apply Kd.rN | apply Kd.rD)); exact HO_8.out)) (by decide) hg)
   have n3_ := Aside0.mk (Kd.R_after (ok := (fun _ => True)) (by (with_reducible repeat (first | apply Kd.rA | apply Kd.rN | apply Kd.rD)); exact Kd.R_mono HO325.out (fun _ hk => ⟨trivial, hk⟩)) hg hat)
   have n4_ := Aside0.mk (hb)
   have n5_ := Aside0.mk (ho)
   clear BK292
   clear HO318
   clear HO321
   clear HO325
   clear HB
   clear HO_8
   have BK292 := n0_
   have HO318 := n1_
   have HO321 := n2_
   have HO325 := n3_
   have HB := n4_
   have HO328 := n5_
   clear n0_ n1_ n2_ n3_ n4_ n5_
   clear ho hb hg hat
   refine hK.out _ _ ⟨(blk_cell BK292.out 0).trans rfl, (blk_cell BK292.out 1).trans rfl, (blk_cell BK292.out 2).trans rfl, (blk_cell BK292.out 3).trans rfl, (blk_cell BK292.out 4).trans rfl, ((HB.out.cell (World.block_lt_of_cell? w _ hw315_0)).trans hw315_0), ((HB.out.cell (World.block_lt_of_cell? w _ hw315_1)).trans hw315_1), ((HB.out.cell (World.block_lt_of_cell? w _ hw315_2)).trans hw315_2), ((HB.out.cell (World.block_lt_of_cell? w _ hw315_3)).trans hw315_3), ((HB.out.cell (World.block_lt_of_cell? w _ hw315_4)).trans hw315_4), ((HB.out.cell (World.block_lt_of_cell? w _ hw315_5)).trans hw315_5), ((HB.out.cell (World.block_lt_of_cell? w _ hw322_0)).trans hw322_0), ((HB.out.cell (World.block_lt_of_cell? w _ hw322_1)).trans hw322_1), ((HB.out.cell (World.block_lt_of_cell? w _ hw322_2)).trans hw322_2), ((HB.out.cell (World.block_lt_of_cell? w _ hw322_3)).trans hw322_3), ((HB.out.cell (World.block_lt_of_cell? w _ hw322_4)).trans hw322_4), ((HB.out.cell (World.block_lt_of_cell? w _ hw322_5)).trans hw322_5)⟩ (fun hHeld => ?_)
   clear hK K
   refine norm_ (a' := ?_) ?_ ?_
   rotate_left
   ·show Act.put _ (some 83) _ = _
    simp only [Act.put, sA, sZ, sS, i64_w, i32_w]
    rfl
   refine pure_ (i := 18) (N := some 7) (v := ?_) (a' := ?_) #[true, true, true, true, true, true, true, true, true, true, true, true, true, true, true, true, true, true, true, false] rfl rfl (any_of HT_.out (by kernel_rfl)) (fun _ _ _ h => h) (Or.inl ⟨by rfl, ?_⟩) ?_ ?_
   rotate_left
   ·intro w'
    go_simp
    with_reducible rfl
   rotate_left
   ·simp only [Act.put, sA, sZ, sS, i64_w, i32_w]
    rfl
   refine pure_ (i := 19) (N := some 8) (v := ?_) (a' := ?_) #[true, true, true, true, true, true, true, true, true, true, true, true, true, true, true, true, true, true, true, true] rfl rfl (any_of HT_.out (by kernel_rfl)) (fun _ _ _ h => h) (Or.inl ⟨by rfl, ?_⟩) ?_ ?_
   rotate_left
   ·intro w'
    go_simp
    with_reducible rfl
   rotate_left
   ·simp only [Act.put, sA, sZ, sS, i64_w, i32_w]
    rfl
   refine done_ (done_of HT_.out (by kernel_rfl)) ?_
   try go_wp2
   go_roundg k1
   case measure => have := HK1.out; omega
   case rel => exact ⟨(y319), (y326), (wrap64 (x9_1 + 1)), (wrap64 (x10_1 + 1)), (by first | rfl | (simp; done) | (simp [*]; done)), (by first | rfl | (simp; done) | (simp [*]; done)), H', ⟨by have := HK1.out; omega⟩, ⟨by (with_reducible repeat (first | apply Kd.rA | apply Kd.rN | apply Kd.rD)); exact Kd.R_mono HO321.out (fun _ hk => trivial)⟩, ⟨by (with_reducible repeat (first | apply Kd.rA | apply Kd.rN | apply Kd.rD)); exact Kd.R_mono HO328.out (fun _ hk => trivial)⟩, ⟨by repeat (first | (with_reducible first | exact HB.out | apply bA | apply bN | apply bD | refine below_set ?_ GE292.out) | exact HB.out)⟩⟩
end Go.Proofs.Ytjmbkbnbepmhjaa.P
