-- out of a program (drive.sh), by way of the translation's print
import Derived.Test.YtjmbkbnbepmhjaaPx0
import Derived.Test.YtjmbkbnbepmhjaaPx6
import Derived.Test.YtjmbkbnbepmhjaaPx20
import Derived.Test.YtjmbkbnbepmhjaaPx21
namespace Go.Proofs.Ytjmbkbnbepmhjaa.P
open Go.RowKit Go.Proofs.YtjmbkbnbepmhjaaW.PrintWords Go.Proofs.YtjmbkbnbepmhjaaW.PrintLast Go.Proofs.YtjmbkbnbepmhjaaW.PrintMore
attribute [local go_sem] max2_int min2_int max_two min_two max_three min_three max_four min_four   -- for this text's walks alone
set_option linter.unusedVariables false
set_option linter.unusedSimpArgs false

/-! ### salchowref25_Table: function 34 -/
mutual
def salchowref25_Table.l0 : Nat → List (S50) → List (S50) → List (List Int) → Int → Option ((List (List Int)))
 | 0, _, _, _, _ => none
 | k + 1, x0, x1, x5, x6 => if x6 ≥ 0 then (if 0 ≤ (wrap64 ((x1.length : Int) + 1)) then (if (wrap64 ((x1.length : Int) + 1) : Int).toNat ≤ 35184372088832 then (if 0 ≤ x6 then (if x6 < (x5.length : Int) then (salchowref25_Table.l1 k x0 x1 (x5.set (x6 : Int).toNat (List.replicate (wrap64 ((x1.length : Int) + 1) : Int).toNat 0)) x6 (x1.length : Int)) else (none)) else (none)) else (none)) else (none)) else (some x5)
def salchowref25_Table.l1 : Nat → List (S50) → List (S50) → List (List Int) → Int → Int → Option ((List (List Int)))
 | 0, _, _, _, _, _ => none
 | k + 1, x0, x1, x5, x6, x7 => if x7 ≥ 0 then (if x6 = (x0.length : Int) then (if 0 ≤ x6 then (if x6 < (x5.length : Int) then (if 0 ≤ x7 then (if x7 < ((rd_L6 x5 x6).length : Int) then (salchowref25_Table.l1 k x0 x1 (x5.set (x6 : Int).toNat ((rd_L6 x5 x6).set (x7 : Int).toNat (wrap64 (2 * (wrap64 ((x1.length : Int) - x7)))))) x6 (wrap64 (x7 - 1))) else (none)) else (none)) else (none)) else (none)) else (if x7 = (x1.length : Int) then (if 0 ≤ x6 then (if x6 < (x5.length : Int) then (if 0 ≤ x7 then (if x7 < ((rd_L6 x5 x6).length : Int) then (salchowref25_Table.l1 k x0 x1 (x5.set (x6 : Int).toNat ((rd_L6 x5 x6).set (x7 : Int).toNat (wrap64 (2 * (wrap64 ((x0.length : Int) - x6)))))) x6 (wrap64 (x7 - 1))) else (none)) else (none)) else (none)) else (none)) else (if 0 ≤ x6 then (if x6 < (x5.length : Int) then (if 0 ≤ (wrap64 (x6 + 1)) then (if (wrap64 (x6 + 1)) < (x5.length : Int) then (if 0 ≤ x7 then (if x7 < ((rd_L6 x5 (wrap64 (x6 + 1))).length : Int) then (if 0 ≤ (wrap64 (x7 + 1)) then (if (wrap64 (x7 + 1)) < ((rd_L6 x5 x6).length : Int) then (if (wrap64 (x7 + 1)) < ((rd_L6 x5 (wrap64 (x6 + 1))).length : Int) then (if x6 < (x0.length : Int) then (if x7 < (x1.length : Int) then ((salchowref25_Turn.f ((rd_T50 x0 x6).f0) ((rd_T50 x0 x6).f1) ((rd_T50 x0 x6).f2) ((rd_T50 x0 x6).f3) ((rd_T50 x0 x6).f4) ((rd_T50 x1 x7).f0) ((rd_T50 x1 x7).f1) ((rd_T50 x1 x7).f2) ((rd_T50 x1 x7).f3) ((rd_T50 x1 x7).f4)).bind fun t282 => ((salchowref25_Cost.f k t282).bind fun t283 => (if x7 < ((rd_L6 x5 x6).length : Int) then (salchowref25_Table.l1 k x0 x1 (x5.set (x6 : Int).toNat ((rd_L6 x5 x6).set (x7 : Int).toNat (mn (mn (wrap64 ((rd (rd_L6 x5 (wrap64 (x6 + 1))) x7) + 2)) (wrap64 ((rd (rd_L6 x5 x6) (wrap64 (x7 + 1))) + 2))) (wrap64 ((rd (rd_L6 x5 (wrap64 (x6 + 1))) (wrap64 (x7 + 1))) + t283))))) x6 (wrap64 (x7 - 1))) else (none)))) else (none)) else (none)) else (none)) else (none)) else (none)) else (none)) else (none)) else (none)) else (none)) else (none)) else (none)))) else (salchowref25_Table.l0 k x0 x1 x5 (wrap64 (x6 - 1)))
end
def salchowref25_Table.f (k : Nat) (l0 : List (S50)) (l1 : List (S50)) : Option ((List (List Int))) := if 0 ≤ (wrap64 ((l0.length : Int) + 1)) then (if (wrap64 ((l0.length : Int) + 1) : Int).toNat ≤ 11728124029610 then (salchowref25_Table.l0 k l0 l1 (List.replicate (wrap64 ((l0.length : Int) + 1) : Int).toNat []) (l0.length : Int)) else (none)) else (none)
theorem salchowref25_Table.mono_l : ∀ k, (∀ y0 y1 y2 y3, LeO (salchowref25_Table.l0 k y0 y1 y2 y3) (salchowref25_Table.l0 (k + 1) y0 y1 y2 y3)) ∧ (∀ y0 y1 y2 y3 y4, LeO (salchowref25_Table.l1 k y0 y1 y2 y3 y4) (salchowref25_Table.l1 (k + 1) y0 y1 y2 y3 y4))
 | 0 => ⟨fun _ _ _ _ r h => by simp [salchowref25_Table.l0] at h, fun _ _ _ _ _ r h => by simp [salchowref25_Table.l1] at h⟩
 | k + 1 => by
  obtain ⟨ih0, ih1⟩ := salchowref25_Table.mono_l k
  refine ⟨?_, ?_⟩
  ·intro y0 y1 y2 y3
   unfold salchowref25_Table.l0
   repeat' first
   | (with_reducible exact ih0 _ _ _ _)
   | (with_reducible exact ih1 _ _ _ _ _)
   | (with_reducible exact salchowref25_Cost.mono _ _)
   | (with_reducible exact LeO.refl _)
   | (with_reducible exact LeO.none _)
   | (with_reducible refine LeO.ite ?_ ?_)
   | (with_reducible refine LeO.bind ?_ (fun _ => ?_))
   | exact ih0 _ _ _ _
   | exact ih1 _ _ _ _ _
   | exact salchowref25_Cost.mono _ _
   | exact LeO.none _
   | refine LeO.ite ?_ ?_
   | refine LeO.bind ?_ (fun _ => ?_)
  ·intro y0 y1 y2 y3 y4
   unfold salchowref25_Table.l1
   repeat' first
   | (with_reducible exact ih0 _ _ _ _)
   | (with_reducible exact ih1 _ _ _ _ _)
   | (with_reducible exact salchowref25_Cost.mono _ _)
   | (with_reducible exact LeO.refl _)
   | (with_reducible exact LeO.none _)
   | (with_reducible refine LeO.ite ?_ ?_)
   | (with_reducible refine LeO.bind ?_ (fun _ => ?_))
   | exact ih0 _ _ _ _
   | exact ih1 _ _ _ _ _
   | exact salchowref25_Cost.mono _ _
   | exact LeO.none _
   | refine LeO.ite ?_ ?_
   | refine LeO.bind ?_ (fun _ => ?_)
theorem salchowref25_Table.mono : ∀ a0 a1 k, LeO (salchowref25_Table.f k a0 a1) (salchowref25_Table.f (k + 1) a0 a1) := by
 intro a0 a1 k
 obtain ⟨ih0, ih1⟩ := salchowref25_Table.mono_l k
 unfold salchowref25_Table.f
 repeat' first
   | (with_reducible exact ih0 _ _ _ _)
   | (with_reducible exact ih1 _ _ _ _ _)
   | (with_reducible exact salchowref25_Cost.mono _ _)
   | (with_reducible exact LeO.refl _)
   | (with_reducible exact LeO.none _)
   | (with_reducible refine LeO.ite ?_ ?_)
   | (with_reducible refine LeO.bind ?_ (fun _ => ?_))
   | exact ih0 _ _ _ _
   | exact ih1 _ _ _ _ _
   | exact salchowref25_Cost.mono _ _
   | exact LeO.none _
   | refine LeO.ite ?_ ?_
   | refine LeO.bind ?_ (fun _ => ?_)
def salchowref25_Table.T9 : Bool × List (List Nat × List Nat) := (true, [([], []), ([], []), ([0, 1], [0, 1]), ([2], [2]), ([], []), ([], []), ([], []), ([6], [6]), ([5, 7], [5, 7]), ([8], [8]), ([], []), ([9, 10], [9, 10]), ([11], [11]), ([12], [12]), ([], []), ([], []), ([14, 15], [14, 15]), ([16], [16]), ([], []), ([18], [18]), ([17, 19], [17, 19]), ([20], [20]), ([21], [21]), ([], []), ([], []), ([24], [24]), ([23, 25], [23, 25]), ([26], [26]), ([], []), ([28], [28]), ([27, 29], [27, 29]), ([30], [30]), ([], []), ([], []), ([32, 33], [32, 33]), ([34], [34]), ([], []), ([], []), ([36, 37], [36, 37]), ([38], [38]), ([35, 39], [35, 39]), ([40, 40], [40]), ([31, 41], [31, 41]), ([13, 22, 42], [13, 22, 42]), ([3, 4, 0, 1, 2, 3, 4, 5, 6, 7, 8, 9, 10, 11, 12, 13, 14, 15, 16, 17, 18, 19, 20, 21, 22, 23, 24, 25, 26, 27, 28, 29, 30, 31, 32, 33, 34, 35, 36, 37, 38, 39, 40, 41, 42, 43], [3, 4]), ([44, 43, 41, 0, 1, 2, 3, 4, 5, 6, 7, 8, 9, 10, 11, 12, 13, 14, 15, 16, 17, 18, 19, 20, 21, 22, 23, 24, 25, 26, 27, 28, 29, 30, 31, 32, 33, 34, 35, 36, 37, 38, 39, 40, 41, 42, 43], [43, 44])])
def salchowref25_Table.B9 : List Nat := [0, 0, 3, 7, 0, 0, 0, 64, 224, 480, 0, 2016, 4064, 8160, 0, 0, 49152, 114688, 0, 262144, 1032192, 2080768, 4177920, 0, 0, 16777216, 58720256, 125829120, 0, 268435456, 1065353216, 2139095040, 0, 0, 12884901888, 30064771072, 0, 0, 206158430208, 481036337152, 1095216660480, 2194728288256, 4398038122496, 8796093022176, 17592186044415, 35184372088831]
theorem salchowref25_Table.tab9 : rtab .any (opsOf Try.f34 9) = salchowref25_Table.T9 := by kernel_rfl
theorem salchowref25_Table.bits9 : waitsOk salchowref25_Table.T9.2 salchowref25_Table.B9 = true := by kernel_rfl
set_option maxHeartbeats 8000000 in
set_option maxRecDepth 100000 in
theorem salchowref25_Table.calls (k : Nat) (A0 : Option Addr) (c0 : Nat) (l0 : List (S50)) (A1 : Option Addr) (c1 : Nat) (l1 : List (S50)) (r : List (List Int)) (w : World) (hr0 : Kd.C k50 w A0 l0.length l0) (hc0 : l0.length ≤ c0) (hr1 : Kd.C k50 w A1 l1.length l1) (hc1 : l1.length ≤ c1) (h : salchowref25_Table.f k l0 l1 = some r) :
  Calls Try.prog 34 #[.slice A0 l0.length c0, .slice A1 l1.length c1] w fun e w' => ∃ v0_ : Value, e = .returned (v0_) ∧ Kd.S (Kd.slice 3 (Kd.int .i64)) 45 w' w.heap.size (fun _ => True) v0_ r ∧ Below w.heap.size w w' := by
 have hu50 := Try.underlying50
 have HR0 := aS hr0
 have HC0 := aS hc0
 clear hr0 hc0
 have HR1 := aS hr1
 have HC1 := aS hc1
 clear hr1 hc1
 have HB := aS (Below.refl w.heap.size w)
 have H : (if 0 ≤ (wrap64 ((l0.length : Int) + 1)) then (if (wrap64 ((l0.length : Int) + 1) : Int).toNat ≤ 11728124029610 then (salchowref25_Table.l0 k l0 l1 (List.replicate (wrap64 ((l0.length : Int) + 1) : Int).toNat []) (l0.length : Int)) else (none)) else (none)) = some r := h
 clear h
 obtain ⟨ji3, hji3⟩ : ∃ j_ : Int, (wrap64 ((l0.length : Int) + 1)) = j_ := ⟨_, rfl⟩
 replace H : (if 0 ≤ (ji3) then (if (ji3 : Int).toNat ≤ 11728124029610 then (salchowref25_Table.l0 k l0 l1 (List.replicate (ji3 : Int).toNat []) (l0.length : Int)) else (none)) else (none)) = some r := by first | (rw [hji3] at H; exact H) | (simp only [hji3] at H ⊢; exact H)
 have hji3w : (IntKind.i64.wrap ((l0.length : Int) + 1)) = ji3 := (i64_w _).trans hji3
 by_cases c4 : 0 ≤ (ji3)
 rotate_left
 ·rw [if_neg c4] at H
  exact absurd H (by simp)

 rw [if_pos c4] at H
 have c4b0 := eq_true c4
 have c4b1 : decide (0 ≤ (ji3)) = true := decide_eq_true c4
 clear c4
 by_cases c5 : (ji3 : Int).toNat ≤ 11728124029610
 rotate_left
 ·rw [if_neg c5] at H
  exact absurd H (by simp)
 rw [if_pos c5] at H
 have c5b0 := eq_true c5
 have c5b1 : decide ((ji3 : Int).toNat ≤ 11728124029610) = true := decide_eq_true c5
 clear c5
 obtain ⟨y258, hy258⟩ : ∃ y_ : List (List Int), y_ = (List.replicate (ji3 : Int).toNat []) := ⟨_, rfl⟩
 replace H : (salchowref25_Table.l0 k l0 l1 y258 (l0.length : Int)) = some r := by first | (rw [hy258]; with_reducible exact H) | (have H2_ := (Option.bind_some _ _).symm.trans H; rw [hy258]; with_reducible exact H2_) | (have H2_ := (Option.bind_some _ _).symm.trans H; with_reducible exact H2_) | with_reducible exact H | (rw [hy258]; exact H) | exact H
 have Ny258 := aS hy258
 clear hy258
 have H' := aS H
 clear H
 go_enter Try.func34, Try.ntmps34
 go_wp2_with (first | ((with_reducible refine gate_dst (N := 11) rfl ?_); refine Kd.S_make (Kd.slice 3 (Kd.int .i64)) _ 45 rfl (N := 11) rfl 60 _ _ rfl ji3 rfl rfl Try.underlying60 (.slice none 0 0) 24 info45 rfl (by decide) (by omega) [] (ok := fun _ => True) (okp := fun _ => True) ⟨_, rfl, Kd.R_nil _ _ _ _ _⟩ (fun _ hk => hk) trivial (of_decide_eq_true (by first | (with_reducible assumption) | assumption)) (Nat.le_trans (Nat.mul_le_mul_right _ (of_decide_eq_true (by first | (with_reducible assumption) | assumption) : ji3.toNat ≤ 11728124029610)) (by omega)) (Below.refl _ _) (Nat.le_refl _) ?_; intro v259 w6 ho7 hb hg_ hnew_; clear hg_ hnew_; (first | rw [← Ny258.out] at ho7 | (simp only [Int.reduceToNat] at ho7; rw [← Ny258.out] at ho7)); have n0_ := aS (Kd.S_lower ho7 (below_size (by first | exact bel HB.out | exact HB.out))); have n1_ := aS (below_step (by first | exact bel HB.out | exact HB.out) hb); clear HB; have HO260 := n0_; have HB := n1_; clear n0_ n1_; clear hb ho7))
 go_loopg [6] k (fun kq v6 w' => ∃ (x5_1 : List (List Int)) (x6_1 : Int), v6 = .int .i64 x6_1 ∧ Aside0 (salchowref25_Table.l0 kq l0 l1 x5_1 x6_1 = some r) ∧ Aside0 (kq ≤ k) ∧ Aside0 (Kd.S (Kd.slice 3 (Kd.int .i64)) 45 w' w.heap.size (fun _ => True) v259 x5_1) ∧ Aside0 (Below w.heap.size w w'))
 case atStart => exact ⟨(y258), ((l0.length : Int)), (by first | rfl | (simp; done) | (simp [*]; done)), H', ⟨Nat.le_refl _⟩, ⟨by (with_reducible repeat (first | apply Kd.S_alloc | apply Kd.S_drewN | apply Kd.S_drew)); exact HO260.out⟩, ⟨by first | exact bel HB.out | exact HB.out⟩⟩
 case round =>
  clear H'
  try clear c1
  try clear p2
  try clear c3
  try clear c4
  try clear c4b0
  try clear c4b1
  try clear c5
  try clear c5b0
  try clear c5b1
  try clear p6
  obtain ⟨x5_1, x6_1, rfl, HA, HK1, HO_5, HB⟩ := hrel
  cases gk with
  | zero => exact absurd HA.out (by simp [salchowref25_Table.l0])
  | succ k1 =>
   have H := HA.out
   clear HA
   simp only [salchowref25_Table.l0] at H
   by_cases c8 : x6_1 ≥ 0
   rotate_left
   ·rw [if_neg c8] at H
    have c8b0 : decide (0 ≤ x6_1) = false := decide_eq_false c8
    clear c8
    obtain rfl := Option.some.inj H
    go_wp2
    go_ret
    exact ⟨_, by first | rfl | (simp [errW_none, errW_some] <;> rfl) | (simp only [← hji3]; first | rfl | (simp [errW_none, errW_some] <;> rfl)) | (simp [*, errW_none, errW_some] <;> rfl), by (with_reducible repeat (first | apply Kd.S_alloc | apply Kd.S_drewN | apply Kd.S_drew)); exact HO_5.out, by first | exact bel HB.out | exact HB.out⟩
   rw [if_pos c8] at H
   have c8b0 : decide (0 ≤ x6_1) = true := decide_eq_true c8
   clear c8
   obtain ⟨ji9, hji9⟩ : ∃ j_ : Int, (wrap64 ((l1.length : Int) + 1)) = j_ := ⟨_, rfl⟩
   replace H : (if 0 ≤ (ji9) then (if (ji9 : Int).toNat ≤ 35184372088832 then (if 0 ≤ x6_1 then (if x6_1 < (x5_1.length : Int) then (salchowref25_Table.l1 k1 l0 l1 (x5_1.set (x6_1 : Int).toNat (List.replicate (ji9 : Int).toNat 0)) x6_1 (l1.length : Int)) else (none)) else (none)) else (none)) else (none)) = some r := by first | (rw [hji9] at H; exact H) | (simp only [hji9] at H ⊢; exact H)
   have hji9w : (IntKind.i64.wrap ((l1.length : Int) + 1)) = ji9 := (i64_w _).trans hji9
   by_cases c10 : 0 ≤ (ji9)
   rotate_left
   ·rw [if_neg c10] at H
    exact absurd H (by simp)
   rw [if_pos c10] at H
   have c10b0 := eq_true c10
   have c10b1 : decide (0 ≤ (ji9)) = true := decide_eq_true c10
   clear c10
   by_cases c11 : (ji9 : Int).toNat ≤ 35184372088832
   rotate_left
   ·rw [if_neg c11] at H
    exact absurd H (by simp)
   rw [if_pos c11] at H
   have c11b0 := eq_true c11
   have c11b1 : decide ((ji9 : Int).toNat ≤ 35184372088832) = true := decide_eq_true c11
   clear c11
   obtain ⟨y261, hy261⟩ : ∃ y_ : List Int, y_ = (List.replicate (ji9 : Int).toNat 0) := ⟨_, rfl⟩
   replace H : (if 0 ≤ x6_1 then (if x6_1 < (x5_1.length : Int) then (salchowref25_Table.l1 k1 l0 l1 (x5_1.set (x6_1 : Int).toNat y261) x6_1 (l1.length : Int)) else (none)) else (none)) = some r := by first | (rw [hy261]; with_reducible exact H) | (have H2_ := (Option.bind_some _ _).symm.trans H; rw [hy261]; with_reducible exact H2_) | (have H2_ := (Option.bind_some _ _).symm.trans H; with_reducible exact H2_) | with_reducible exact H | (rw [hy261]; exact H) | exact H
   have Ny261 := aS hy261
   clear hy261
   by_cases c12 : 0 ≤ x6_1
   rotate_left
   ·rw [if_neg c12] at H
    exact absurd H (by simp)
   rw [if_pos c12] at H
   have c12b0 : decide (0 ≤ x6_1) = true := decide_eq_true c12
   clear c12
   by_cases c13 : x6_1 < (x5_1.length : Int)
   rotate_left
   ·rw [if_neg c13] at H
    exact absurd H (by simp)
   rw [if_pos c13] at H
   have c13b0 : decide (x6_1 < (x5_1.length : Int)) = true := decide_eq_true c13
   clear c13
   obtain ⟨y264, hy264⟩ : ∃ y_ : List (List Int), y_ = (x5_1.set (x6_1 : Int).toNat y261) := ⟨_, rfl⟩
   replace H : (salchowref25_Table.l1 k1 l0 l1 y264 x6_1 (l1.length : Int)) = some r := by first | (rw [hy264]; with_reducible exact H) | (have H2_ := (Option.bind_some _ _).symm.trans H; rw [hy264]; with_reducible exact H2_) | (have H2_ := (Option.bind_some _ _).symm.trans H; with_reducible exact H2_) | with_reducible exact H | (rw [hy264]; exact H) | exact H
   have Ny264 := aS hy264
   clear hy264
   have H' := aS H
   clear H
   go_wp2_with (first | ((with_reducible refine gate_dst (N := 23) rfl ?_); refine Kd.R_make (Kd.int .i64) _ 3 rfl (N := 23) rfl 45 _ _ rfl ji9 rfl rfl Try.underlying45 (.int .i64 0) 8 info3 rfl (by decide) (by omega) 0 (ok := fun _ => True) (okp := fun _ => True) rfl (fun _ hk => hk) trivial (of_decide_eq_true (by first | (with_reducible assumption) | assumption)) (Nat.le_trans (Nat.mul_le_mul_right _ (of_decide_eq_true (by first | (with_reducible assumption) | assumption) : ji9.toNat ≤ 35184372088832)) (by omega)) (Below.refl _ _) (Nat.le_refl _) ?_; intro v262 w15 ho16 hb hg_ hnew_; clear hg_ hnew_; (first | rw [← Ny261.out] at ho16 | (simp only [Int.reduceToNat] at ho16; rw [← Ny261.out] at ho16)); have n0_ := aS (Kd.S_elder' (by (with_reducible repeat (first | apply Kd.S_alloc | apply Kd.S_drewN | apply Kd.S_drew)); exact HO_5.out) (Kd.R_base ho16) hb); have n1_ := aS (Kd.R_lower ho16 (below_size (by first | exact bel HB.out | exact HB.out))); have n2_ := aS (below_step (by first | exact bel HB.out | exact HB.out) hb); clear HO_5; clear HB; have HO_5 := n0_; have HO263 := n1_; have HB := n2_; clear n0_ n1_ n2_; clear hb ho16; have p14 : 0 ≤ (x6_1 : Int) := of_decide_eq_true (by first | (with_reducible assumption) | assumption); have q14 : (x6_1 : Int) < ((x5_1.length : Int) : Int) := of_decide_eq_true (by first | (with_reducible assumption) | assumption); obtain ⟨go14, co14, eo14, gb14, gl14, cl14, HG14⟩ := Kd.S_form HO_5.out (by omega); (first | cases eo14 | (injection eo14 with ea_ en_ ec_; (first | subst ea_ | (injection ea_ with ea_; subst ea_)); subst ec_; clear en_)); have GB14 := aS gb14; have GG14 := aS HG14; clear gb14 gl14 HG14; obtain ⟨_, ce14, hcl14, hM14, hcc14, hfr14, _, _⟩ := Kd.S_elem HO_5.out [] (x6_1 : Int) p14 q14; obtain ⟨ve14_0, rfl, ge14_0⟩ := hM14; have hx14_0 := hcc14 0 _ rfl; have hf14_0 := hfr14 0; (try simp only [show ((Kd.slice 3 (Kd.int .i64))).sz = 1 from rfl, Nat.mul_one, Nat.add_zero] at hx14_0); (try simp only [show ((Kd.slice 3 (Kd.int .i64))).sz = 1 from rfl, Nat.mul_one, Nat.add_zero] at hf14_0); clear hcl14 hcc14 hfr14; (try clear hM14); replace p14 := eq_true p14; replace q14 := eq_true q14; have n_ := aS (Kd.S_mono (ok' := (fun k_ => some k_ ≠ (v262 : Value).ownBlock)) HO_5.out (fun k_ hk => hk.2)); clear HO_5; have HO_5 := n_; clear n_; have HX17 := aS (show Kd.S (Kd.slice 3 (Kd.int .i64)) 45 w15 w.heap.size (fun k_ => ((fun _ => True)) k_ ∧ ¬ ((fun k_ => some k_ = (v262 : Value).ownBlock)) k_) (.slice (some ⟨go14, 0, none⟩) x5_1.length co14) x5_1 from (by (with_reducible repeat (first | apply Kd.S_alloc | apply Kd.S_drewN | apply Kd.S_drew)); exact Kd.S_mono HO_5.out (fun k_ hk => ⟨trivial, fun e_ => hk e_⟩))); obtain ⟨oki17, ce17, hcl17, hM17, hcc17, hfr17, hoki17, hH17⟩ := Kd.S_elem HX17.out [] (x6_1 : Int) (of_decide_eq_true (by first | (with_reducible assumption) | assumption)) (by have h_ : (x6_1 : Int) < ((x5_1.length : Int) : Int) := of_decide_eq_true (by first | (with_reducible assumption) | assumption); first | exact h_ | (have e_ := (Kd.S_reads' HO_5.out).1; omega) | simpa using h_); obtain ⟨ve17_0, rfl, ge17_0⟩ := hM17; have HP17 := Kd.S_seg hH17 (of_decide_eq_true (by first | (with_reducible assumption) | assumption)) (by have h_ : (x6_1 : Int) < ((x5_1.length : Int) : Int) := of_decide_eq_true (by first | (with_reducible assumption) | assumption); first | exact h_ | (have e_ := (Kd.S_reads' HO_5.out).1; omega) | simpa using h_) (seg := [v262]) (j := 0) (show 1 ≤ 1 from by decide) (x' := y261) (Kd.M_row (Kd.R_mono (Kd.R_tight rfl (Kd.R_mono (ok' := fun k_ => ((fun _ => True)) k_ ∧ k_ ≠ go14) (Kd.R_apart' (HO263.out) (Kd.S_typed HO_5.out) (by decide)) (fun k_ hk => ⟨trivial, fun e_ => (hk.2) (by rw [e_]; rfl)⟩))) (fun _ h_ => Or.inr (h_)))) (fun _ hk => hk) (fun k_ hk_ => ((Kd.R_mono (ok' := fun k_ => ((fun _ => True)) k_ ∧ k_ ≠ go14) (Kd.R_apart' (HO263.out) (Kd.S_typed HO_5.out) (by decide)) (fun k_ hk => ⟨trivial, fun e_ => (hk.2) (by rw [e_]; rfl)⟩))).1 k_ hk_.symm); have hx17_0 := hcc17 0 _ rfl; (try simp only [show ((Kd.slice 3 (Kd.int .i64))).sz = 1 from rfl, Nat.mul_one, Nat.add_zero] at hx17_0); have hf17_0 := hfr17 0; (try simp only [show ((Kd.slice 3 (Kd.int .i64))).sz = 1 from rfl, Nat.mul_one, Nat.add_zero] at hf17_0); clear hcl17 hcc17 hfr17; (try clear hM17); clear hoki17 hH17; (try simp only [show ((Kd.slice 3 (Kd.int .i64))).sz = 1 from rfl, Nat.mul_one, Nat.add_zero] at HP17)) | ((with_reducible refine gate_store (t := 45) (p := 24) rfl ?_); refine store_event (t := 45) (p := 24) (v := ?vo_w18) (w1 := (w15.setCell ⟨go14, (x6_1 : Int).toNat, none⟩ (v262))) ?hg ?ho ?hn ?hr ?_; (case ho => rfl); (case hg => rfl); (case hn => rfl); (case hr => first | (go_simp; done) | (go_simp; rfl) | (obtain ⟨Az_, cz_, ez_⟩ := (by first | exact Kd.R_slice HO263.out | exact Kd.R_slice (Kd.S_R HO263.out) : ∃ A_ c_, v262 = Value.slice A_ y261.length c_); rw [ez_]; go_simp; first | done | rfl)); intro w18 hw; have hg : w15.grownBy w18 (some go14) := (by rw [hw]; exact HP17.2); have hp_ : Kd.S (Kd.slice 3 (Kd.int .i64)) 45 w18 w.heap.size (fun _ => True) (.slice (some ⟨go14, 0, none⟩) x5_1.length co14) y264 := (by rw [hw, Ny264.out]; exact HP17.1); clear HP17; have n0_ := aS (hp_); have n1_ := aS ((by rw [hw]; exact below_set (HB.out) GB14.out : Below w.heap.size w w18)); clear HO_5; clear HB; clear HO263; have HO_5 := n0_; have HB := n1_; clear n0_ n1_; clear hg hw hp_))
   go_loopg [7] k1 (fun kq v7 w' => ∃ (x5_2 : List (List Int)) (x7_2 : Int), v7 = .int .i64 x7_2 ∧ Aside0 (salchowref25_Table.l1 kq l0 l1 x5_2 x6_1 x7_2 = some r) ∧ Aside0 (kq ≤ k1) ∧ Aside0 (Kd.S (Kd.slice 3 (Kd.int .i64)) 45 w' w.heap.size (fun _ => True) (.slice (some ⟨go14, 0, none⟩) x5_1.length co14) x5_2) ∧ Aside0 (Below w.heap.size w w'))
   case atStart => exact ⟨(y264), ((l1.length : Int)), (by first | rfl | (simp; done) | (simp [*]; done)), H', ⟨Nat.le_refl _⟩, ⟨by (with_reducible repeat (first | apply Kd.S_alloc | apply Kd.S_drewN | apply Kd.S_drew)); exact HO_5.out⟩, ⟨by first | exact bel HB.out | exact HB.out⟩⟩
   case round =>
    clear H'
    try clear c1
    try clear p1
    try clear q1
    try clear hx1
    try clear p2
    try clear c3
    try clear c4
    try clear c4b0
    try clear c4b1
    try clear c5
    try clear c5b0
    try clear c5b1
    try clear p6
    try clear c8
    try clear c8b0
    try clear c10
    try clear c10b0
    try clear c10b1
    try clear c11
    try clear c11b0
    try clear c11b1
    try clear c12
    try clear c12b0
    try clear c13
    try clear c13b0
    try clear c14
    try clear p14
    try clear q14
    try clear hx14
    try clear hf14
    try clear c17
    try clear hx17
    try clear hf17
    try clear hx14_0
    try clear hx17_0
    try clear p14
    try clear p2
    try clear p6
    try clear q14
    obtain ⟨x5_2, x7_2, rfl, HA, HK2, HO_5, HB⟩ := hrel
    have hl5_2 := (Kd.S_reads' HO_5.out).1
    rw [hl5_2] at HO_5
    (try simp only [hl5_2])
    cases gk with
    | zero => exact absurd HA.out (by simp [salchowref25_Table.l1])
    | succ k2 =>
     have H := HA.out
     clear HA
     simp only [salchowref25_Table.l1] at H
     by_cases c19 : x7_2 ≥ 0
     rotate_left
     ·rw [if_neg c19] at H
      have c19b0 : decide (0 ≤ x7_2) = false := decide_eq_false c19
      clear c19
      have H' := aS H
      clear H
      go_wp2
      (try simp only [← hl5_2])
      go_roundg k2
      case measure => have := HK1.out; have := HK2.out; omega
      case rel => exact ⟨(x5_2), (wrap64 (x6_1 - 1)), (by first | rfl | (simp; done) | (simp [*]; done)), H', ⟨by have := HK1.out; have := HK2.out; omega⟩, ⟨by (try simp only [hl5_2]); (with_reducible repeat (first | apply Kd.S_alloc | apply Kd.S_drewN | apply Kd.S_drew)); exact HO_5.out⟩, ⟨by first | exact bel HB.out | exact HB.out⟩⟩
     rw [if_pos c19] at H
     have c19b0 : decide (0 ≤ x7_2) = true := decide_eq_true c19
     clear c19
     by_cases c20 : x6_1 = (l0.length : Int)
     ·rw [if_pos c20] at H
      have c20b0 : (x6_1 == (l0.length : Int)) = true := beq_iff_eq.mpr c20
      have c20b1 : (x6_1 != (l0.length : Int)) = false := bne_eq_false_iff_eq.mpr c20
      clear c20
      by_cases c21 : 0 ≤ x6_1
      rotate_left
      ·rw [if_neg c21] at H
       exact absurd H (by simp)
      rw [if_pos c21] at H
      have c21b0 : decide (0 ≤ x6_1) = true := decide_eq_true c21
      clear c21
      by_cases c22 : x6_1 < (x5_2.length : Int)
      rotate_left
      ·rw [if_neg c22] at H
       exact absurd H (by simp)
      rw [if_pos c22] at H
      have c22b0 : decide (x6_1 < (x5_2.length : Int)) = true := decide_eq_true c22
      clear c22
      by_cases c23 : 0 ≤ x7_2
      rotate_left
      ·rw [if_neg c23] at H
       exact absurd H (by simp)
      rw [if_pos c23] at H
      have c23b0 : decide (0 ≤ x7_2) = true := decide_eq_true c23
      clear c23
      by_cases c24 : x7_2 < ((rd_L6 x5_2 x6_1).length : Int)
      rotate_left
      ·rw [if_neg c24] at H
       exact absurd H (by simp)
      rw [if_pos c24] at H
      have c24b0 : decide (x7_2 < ((rd_L6 x5_2 x6_1).length : Int)) = true := decide_eq_true c24
      clear c24
      obtain ⟨y266, hy266⟩ : ∃ y_ : List Int, y_ = ((rd_L6 x5_2 x6_1).set (x7_2 : Int).toNat (wrap64 (2 * (wrap64 ((l1.length : Int) - x7_2))))) := ⟨_, rfl⟩
      replace H : (salchowref25_Table.l1 k2 l0 l1 (x5_2.set (x6_1 : Int).toNat y266) x6_1 (wrap64 (x7_2 - 1))) = some r := by first | (rw [hy266]; with_reducible exact H) | (have H2_ := (Option.bind_some _ _).symm.trans H; rw [hy266]; with_reducible exact H2_) | (have H2_ := (Option.bind_some _ _).symm.trans H; with_reducible exact H2_) | with_reducible exact H | (rw [hy266]; exact H) | exact H
      have Ny266 := aS hy266
      clear hy266
      obtain ⟨y268, hy268⟩ : ∃ y_ : List (List Int), y_ = (x5_2.set (x6_1 : Int).toNat y266) := ⟨_, rfl⟩
      replace H : (salchowref25_Table.l1 k2 l0 l1 y268 x6_1 (wrap64 (x7_2 - 1))) = some r := by first | (rw [hy268]; with_reducible exact H) | (have H2_ := (Option.bind_some _ _).symm.trans H; rw [hy268]; with_reducible exact H2_) | (have H2_ := (Option.bind_some _ _).symm.trans H; with_reducible exact H2_) | with_reducible exact H | (rw [hy268]; exact H) | exact H
      have Ny268 := aS hy268
      clear hy268
      have H' := aS H
      clear H
      have p265 : 0 ≤ (x6_1 : Int) := of_decide_eq_true (by first | (with_reducible assumption) | assumption)
      have q265 : x6_1 < (x5_2.length : Int) := of_decide_eq_true (by first | (with_reducible assumption) | assumption)
      obtain ⟨ad265, A265_0, c265_0, e265, hx265_0, hl265_0, hi265_0⟩ := at_L6 (Kd.S_reads' HO_5.out).2.2 x6_1 p265 q265
      obtain rfl : (⟨go14, 0, none⟩ : Addr) = ad265 := (by injection e265)
      obtain ⟨ce265, hce265, hMe265, hcc265⟩ := Kd.S_get HO_5.out [] x6_1 p265 (by first | exact q265 | exact of_decide_eq_true (by first | (with_reducible assumption) | assumption) | (have e_ := (Kd.S_reads' HO_5.out).1; omega))
      obtain ⟨ve265_0, rfl, ge265_0⟩ := hMe265
      have hv265_0 := hcc265 0 _ rfl
      rw [Nat.add_zero, show ((Kd.slice 3 (Kd.int .i64))).sz = 1 from rfl, Nat.mul_one] at hv265_0
      replace hv265_0 := Option.some.inj (hv265_0.symm.trans hx265_0)
      rw [hv265_0] at ge265_0
      have HL265_0 := aS (show Kd.R (Kd.int .i64) 3 _ _ _ _ (rd_L6 x5_2 x6_1) from ge265_0)
      clear hv265_0 ge265_0
      have HX265_0 := aS hx265_0
      clear hcc265 hce265
      (first | simp only [add_plain] at hx265_0 | simp only [add_at] at hx265_0 | simp only [Addr.add, Nat.zero_add] at hx265_0 | skip)
      have HR265_0 := aS hi265_0
      have HC265_0 := aS hl265_0
      clear hi265_0 hl265_0
      replace p265 := eq_true p265
      replace q265 := eq_true q265
      have p25 : 0 ≤ (x7_2 : Int) := of_decide_eq_true (by first | (with_reducible assumption) | assumption)
      have q25 : (x7_2 : Int) < (((rd_L6 x5_2 x6_1).length : Int) : Int) := of_decide_eq_true (by first | (with_reducible assumption) | assumption)
      obtain ⟨go25, co25, eo25, gb25, gl25, cl25, HG25⟩ := Kd.R_form HL265_0.out (by omega)
      (first | cases eo25 | (injection eo25 with ea_ en_ ec_; (first | subst ea_ | (injection ea_ with ea_; subst ea_)); subst ec_; clear en_))
      have GB25 := aS gb25
      have GG25 := aS HG25
      clear gb25 gl25 HG25
      obtain ⟨hx25_0, hf25_0⟩ := Kd.R_celln 0 HL265_0.out (x7_2 : Int) p25 q25
      replace p25 := eq_true p25
      replace q25 := eq_true q25
      have hq26 : (x6_1 : Int) < (x5_2.length : Int) := (by have h_ : (x6_1 : Int) < ((x5_2.length : Int) : Int) := of_decide_eq_true (by first | (with_reducible assumption) | assumption); first | exact h_ | (have e_ := (Kd.S_reads' HO_5.out).1; omega) | simpa only [List.length_set, List.length_set] using h_)
      obtain ⟨oki26, ce26, hcl26, hM26, hcc26, hok26, hbk26⟩ := Kd.S_borrow HO_5.out [] (x6_1 : Int) (of_decide_eq_true (by first | (with_reducible assumption) | assumption)) hq26
      obtain ⟨ve26_0, rfl, ge26_0⟩ := hM26
      have hv26 := hcc26 0 _ rfl
      rw [Nat.add_zero, show ((Kd.slice 3 (Kd.int .i64))).sz = 1 from rfl, Nat.mul_one] at hv26
      replace hv26 := Option.some.inj (hv26.symm.trans HX265_0.out)
      subst hv26
      clear hcc26 hcl26
      replace ge26_0 := (show Kd.R (Kd.int .i64) 3 _ _ _ _ (rd_L6 x5_2 x6_1) from ge26_0)
      have HP26 := Kd.R_putg ge26_0 (x7_2 : Int) (wrap64 (2 * (wrap64 ((l1.length : Int) - x7_2))))
      go_wp2_with (first | ((with_reducible refine gate_store (t := 3) (p := 91) rfl ?_); refine store_event (t := 3) (p := 91) (v := ?vo_w27) (w1 := (wr.setCell ⟨go25, (x7_2 : Int).toNat, none⟩ (.int .i64 (wrap64 (2 * (wrap64 ((l1.length : Int) - x7_2))))))) ?hg ?ho ?hn ?hr ?_; (case ho => rfl); (case hg => rfl); (case hn => rfl); (case hr => first | (go_simp; done) | (go_simp; rfl)); intro w27 hw; have hg : wr.grownBy w27 (some go25) := (by rw [hw]; exact HP26.2); have hz_ : Kd.R (Kd.int .i64) 3 w27 w.heap.size oki26 (.slice (some ⟨go25, 0, none⟩) (rd_L6 x5_2 x6_1).length c265_0) y266 := (by rw [hw, Ny266.out]; exact HP26.1); have hp_ : Kd.S (Kd.slice 3 (Kd.int .i64)) 45 w27 w.heap.size (fun _ => True) (.slice (some ⟨go14, 0, none⟩) x5_2.length co14) y268 := (by rw [Ny268.out]; exact hbk26 hg (fun k_ e_ => by injection e_ with e_; subst e_; exact ge26_0.1 _ rfl) (Kd.M_row hz_)); have hm_ := Kd.R_mono hz_ hok26; clear HP26 hbk26; have n0_ := aS (hp_); have n1_ := aS ((by rw [hw]; exact below_set (HB.out) GB25.out : Below w.heap.size w w27)); have n2_ := aS (hm_); have n3_ := aS ((Kd.R_reads' hm_).2.1); clear HO_5; clear HB; clear HL265_0; have HO_5 := n0_; have HB := n1_; have HL287 := n2_; have HC267 := n3_; clear n0_ n1_ n2_ n3_; clear hg hw hp_ hz_ hm_ hok26))
      (try simp only [← hl5_2])
      go_roundg k2
      case measure => have := HK1.out; have := HK2.out; omega
      case rel => exact ⟨(y268), (wrap64 (x7_2 - 1)), (by first | rfl | (simp; done) | (simp [*]; done)), H', ⟨by have := HK1.out; have := HK2.out; omega⟩, ⟨by (try simp only [hl5_2]); (with_reducible repeat (first | apply Kd.S_alloc | apply Kd.S_drewN | apply Kd.S_drew)); exact HO_5.out⟩, ⟨by first | exact bel HB.out | exact HB.out⟩⟩
     rw [if_neg c20] at H
     have c20b0 : (x6_1 == (l0.length : Int)) = false := beq_eq_false_iff_ne.mpr c20
     have c20b1 : (x6_1 != (l0.length : Int)) = true := bne_iff_ne.mpr c20
     by_cases c28 : x7_2 = (l1.length : Int)
     ·rw [if_pos c28] at H
      have c28b0 : (x7_2 == (l1.length : Int)) = true := beq_iff_eq.mpr c28
      have c28b1 : (x7_2 != (l1.length : Int)) = false := bne_eq_false_iff_eq.mpr c28
      clear c28
      by_cases c29 : 0 ≤ x6_1
      rotate_left
      ·rw [if_neg c29] at H
       exact absurd H (by simp)
      rw [if_pos c29] at H
      have c29b0 : decide (0 ≤ x6_1) = true := decide_eq_true c29
      clear c29
      by_cases c30 : x6_1 < (x5_2.length : Int)
      rotate_left
      ·rw [if_neg c30] at H
       exact absurd H (by simp)
      rw [if_pos c30] at H
      have c30b0 : decide (x6_1 < (x5_2.length : Int)) = true := decide_eq_true c30
      clear c30
      by_cases c31 : 0 ≤ x7_2
      rotate_left
      ·rw [if_neg c31] at H
       exact absurd H (by simp)
      rw [if_pos c31] at H
      have c31b0 : decide (0 ≤ x7_2) = true := decide_eq_true c31
      clear c31
      by_cases c32 : x7_2 < ((rd_L6 x5_2 x6_1).length : Int)
      rotate_left
      ·rw [if_neg c32] at H
       exact absurd H (by simp)
      rw [if_pos c32] at H
      have c32b0 : decide (x7_2 < ((rd_L6 x5_2 x6_1).length : Int)) = true := decide_eq_true c32
      clear c32
      obtain ⟨y270, hy270⟩ : ∃ y_ : List Int, y_ = ((rd_L6 x5_2 x6_1).set (x7_2 : Int).toNat (wrap64 (2 * (wrap64 ((l0.length : Int) - x6_1))))) := ⟨_, rfl⟩
      replace H : (salchowref25_Table.l1 k2 l0 l1 (x5_2.set (x6_1 : Int).toNat y270) x6_1 (wrap64 (x7_2 - 1))) = some r := by first | (rw [hy270]; with_reducible exact H) | (have H2_ := (Option.bind_some _ _).symm.trans H; rw [hy270]; with_reducible exact H2_) | (have H2_ := (Option.bind_some _ _).symm.trans H; with_reducible exact H2_) | with_reducible exact H | (rw [hy270]; exact H) | exact H
      have Ny270 := aS hy270
      clear hy270
      obtain ⟨y272, hy272⟩ : ∃ y_ : List (List Int), y_ = (x5_2.set (x6_1 : Int).toNat y270) := ⟨_, rfl⟩
      replace H : (salchowref25_Table.l1 k2 l0 l1 y272 x6_1 (wrap64 (x7_2 - 1))) = some r := by first | (rw [hy272]; with_reducible exact H) | (have H2_ := (Option.bind_some _ _).symm.trans H; rw [hy272]; with_reducible exact H2_) | (have H2_ := (Option.bind_some _ _).symm.trans H; with_reducible exact H2_) | with_reducible exact H | (rw [hy272]; exact H) | exact H
      have Ny272 := aS hy272
      clear hy272
      have H' := aS H
      clear H
      have p269 : 0 ≤ (x6_1 : Int) := of_decide_eq_true (by first | (with_reducible assumption) | assumption)
      have q269 : x6_1 < (x5_2.length : Int) := of_decide_eq_true (by first | (with_reducible assumption) | assumption)
      obtain ⟨ad269, A269_0, c269_0, e269, hx269_0, hl269_0, hi269_0⟩ := at_L6 (Kd.S_reads' HO_5.out).2.2 x6_1 p269 q269
      obtain rfl : (⟨go14, 0, none⟩ : Addr) = ad269 := (by injection e269)
      obtain ⟨ce269, hce269, hMe269, hcc269⟩ := Kd.S_get HO_5.out [] x6_1 p269 (by first | exact q269 | exact of_decide_eq_true (by first | (with_reducible assumption) | assumption) | (have e_ := (Kd.S_reads' HO_5.out).1; omega))
      obtain ⟨ve269_0, rfl, ge269_0⟩ := hMe269
      have hv269_0 := hcc269 0 _ rfl
      rw [Nat.add_zero, show ((Kd.slice 3 (Kd.int .i64))).sz = 1 from rfl, Nat.mul_one] at hv269_0
      replace hv269_0 := Option.some.inj (hv269_0.symm.trans hx269_0)
      rw [hv269_0] at ge269_0
      have HL269_0 := aS (show Kd.R (Kd.int .i64) 3 _ _ _ _ (rd_L6 x5_2 x6_1) from ge269_0)
      clear hv269_0 ge269_0
      have HX269_0 := aS hx269_0
      clear hcc269 hce269
      (first | simp only [add_plain] at hx269_0 | simp only [add_at] at hx269_0 | simp only [Addr.add, Nat.zero_add] at hx269_0 | skip)
      have HR269_0 := aS hi269_0
      have HC269_0 := aS hl269_0
      clear hi269_0 hl269_0
      replace p269 := eq_true p269
      replace q269 := eq_true q269
      have p33 : 0 ≤ (x7_2 : Int) := of_decide_eq_true (by first | (with_reducible assumption) | assumption)
      have q33 : (x7_2 : Int) < (((rd_L6 x5_2 x6_1).length : Int) : Int) := of_decide_eq_true (by first | (with_reducible assumption) | assumption)
      obtain ⟨go33, co33, eo33, gb33, gl33, cl33, HG33⟩ := Kd.R_form HL269_0.out (by omega)
      (first | cases eo33 | (injection eo33 with ea_ en_ ec_; (first | subst ea_ | (injection ea_ with ea_; subst ea_)); subst ec_; clear en_))
      have GB33 := aS gb33
      have GG33 := aS HG33
      clear gb33 gl33 HG33
      obtain ⟨hx33_0, hf33_0⟩ := Kd.R_celln 0 HL269_0.out (x7_2 : Int) p33 q33
      replace p33 := eq_true p33
      replace q33 := eq_true q33
      have hq34 : (x6_1 : Int) < (x5_2.length : Int) := (by have h_ : (x6_1 : Int) < ((x5_2.length : Int) : Int) := of_decide_eq_true (by first | (with_reducible assumption) | assumption); first | exact h_ | (have e_ := (Kd.S_reads' HO_5.out).1; omega) | simpa only [List.length_set, List.length_set] using h_)
      obtain ⟨oki34, ce34, hcl34, hM34, hcc34, hok34, hbk34⟩ := Kd.S_borrow HO_5.out [] (x6_1 : Int) (of_decide_eq_true (by first | (with_reducible assumption) | assumption)) hq34
      obtain ⟨ve34_0, rfl, ge34_0⟩ := hM34
      have hv34 := hcc34 0 _ rfl
      rw [Nat.add_zero, show ((Kd.slice 3 (Kd.int .i64))).sz = 1 from rfl, Nat.mul_one] at hv34
      replace hv34 := Option.some.inj (hv34.symm.trans HX269_0.out)
      subst hv34
      clear hcc34 hcl34
      replace ge34_0 := (show Kd.R (Kd.int .i64) 3 _ _ _ _ (rd_L6 x5_2 x6_1) from ge34_0)
      have HP34 := Kd.R_putg ge34_0 (x7_2 : Int) (wrap64 (2 * (wrap64 ((l0.length : Int) - x6_1))))
      go_wp2_with (first | ((with_reducible refine gate_store (t := 3) (p := 107) rfl ?_); refine store_event (t := 3) (p := 107) (v := ?vo_w35) (w1 := (wr.setCell ⟨go33, (x7_2 : Int).toNat, none⟩ (.int .i64 (wrap64 (2 * (wrap64 ((l0.length : Int) - x6_1))))))) ?hg ?ho ?hn ?hr ?_; (case ho => rfl); (case hg => rfl); (case hn => rfl); (case hr => first | (go_simp; done) | (go_simp; rfl)); intro w35 hw; have hg : wr.grownBy w35 (some go33) := (by rw [hw]; exact HP34.2); have hz_ : Kd.R (Kd.int .i64) 3 w35 w.heap.size oki34 (.slice (some ⟨go33, 0, none⟩) (rd_L6 x5_2 x6_1).length c269_0) y270 := (by rw [hw, Ny270.out]; exact HP34.1); have hp_ : Kd.S (Kd.slice 3 (Kd.int .i64)) 45 w35 w.heap.size (fun _ => True) (.slice (some ⟨go14, 0, none⟩) x5_2.length co14) y272 := (by rw [Ny272.out]; exact hbk34 hg (fun k_ e_ => by injection e_ with e_; subst e_; exact ge34_0.1 _ rfl) (Kd.M_row hz_)); have hm_ := Kd.R_mono hz_ hok34; clear HP34 hbk34; have n0_ := aS (hp_); have n1_ := aS ((by rw [hw]; exact below_set (HB.out) GB33.out : Below w.heap.size w w35)); have n2_ := aS (hm_); have n3_ := aS ((Kd.R_reads' hm_).2.1); clear HO_5; clear HB; clear HL269_0; have HO_5 := n0_; have HB := n1_; have HL288 := n2_; have HC271 := n3_; clear n0_ n1_ n2_ n3_; clear hg hw hp_ hz_ hm_ hok34))
      (try simp only [← hl5_2])
      go_roundg k2
      case measure => have := HK1.out; have := HK2.out; omega
      case rel => exact ⟨(y272), (wrap64 (x7_2 - 1)), (by first | rfl | (simp; done) | (simp [*]; done)), H', ⟨by have := HK1.out; have := HK2.out; omega⟩, ⟨by (try simp only [hl5_2]); (with_reducible repeat (first | apply Kd.S_alloc | apply Kd.S_drewN | apply Kd.S_drew)); exact HO_5.out⟩, ⟨by first | exact bel HB.out | exact HB.out⟩⟩
     rw [if_neg c28] at H
     have c28b0 : (x7_2 == (l1.length : Int)) = false := beq_eq_false_iff_ne.mpr c28
     have c28b1 : (x7_2 != (l1.length : Int)) = true := bne_iff_ne.mpr c28
     by_cases c36 : 0 ≤ x6_1
     rotate_left
     ·rw [if_neg c36] at H
      exact absurd H (by simp)
     rw [if_pos c36] at H
     have c36b0 : decide (0 ≤ x6_1) = true := decide_eq_true c36
     clear c36
     by_cases c37 : x6_1 < (x5_2.length : Int)
     rotate_left
     ·rw [if_neg c37] at H
      exact absurd H (by simp)
     rw [if_pos c37] at H
     have c37b0 : decide (x6_1 < (x5_2.length : Int)) = true := decide_eq_true c37
     clear c37
     obtain ⟨ji38, hji38⟩ : ∃ j_ : Int, (wrap64 (x6_1 + 1)) = j_ := ⟨_, rfl⟩
     replace H : (if 0 ≤ (ji38) then (if (ji38) < (x5_2.length : Int) then (if 0 ≤ x7_2 then (if x7_2 < ((rd_L6 x5_2 (ji38)).length : Int) then (if 0 ≤ (wrap64 (x7_2 + 1)) then (if (wrap64 (x7_2 + 1)) < ((rd_L6 x5_2 x6_1).length : Int) then (if (wrap64 (x7_2 + 1)) < ((rd_L6 x5_2 (ji38)).length : Int) then (if x6_1 < (l0.length : Int) then (if x7_2 < (l1.length : Int) then ((salchowref25_Turn.f ((rd_T50 l0 x6_1).f0) ((rd_T50 l0 x6_1).f1) ((rd_T50 l0 x6_1).f2) ((rd_T50 l0 x6_1).f3) ((rd_T50 l0 x6_1).f4) ((rd_T50 l1 x7_2).f0) ((rd_T50 l1 x7_2).f1) ((rd_T50 l1 x7_2).f2) ((rd_T50 l1 x7_2).f3) ((rd_T50 l1 x7_2).f4)).bind fun t282 => ((salchowref25_Cost.f k2 t282).bind fun t283 => (if x7_2 < ((rd_L6 x5_2 x6_1).length : Int) then (salchowref25_Table.l1 k2 l0 l1 (x5_2.set (x6_1 : Int).toNat ((rd_L6 x5_2 x6_1).set (x7_2 : Int).toNat (mn (mn (wrap64 ((rd (rd_L6 x5_2 (ji38)) x7_2) + 2)) (wrap64 ((rd (rd_L6 x5_2 x6_1) (wrap64 (x7_2 + 1))) + 2))) (wrap64 ((rd (rd_L6 x5_2 (ji38)) (wrap64 (x7_2 + 1))) + t283))))) x6_1 (wrap64 (x7_2 - 1))) else (none)))) else (none)) else (none)) else (none)) else (none)) else (none)) else (none)) else (none)) else (none)) else (none)) = some r := by first | (rw [hji38] at H; exact H) | (simp only [hji38] at H ⊢; exact H)
     have hji38w : (IntKind.i64.wrap (x6_1 + 1)) = ji38 := (i64_w _).trans hji38
     by_cases c39 : 0 ≤ (ji38)
     rotate_left
     ·rw [if_neg c39] at H
      exact absurd H (by simp)
     rw [if_pos c39] at H
     have c39b0 : decide (0 ≤ (ji38)) = true := decide_eq_true c39
     clear c39
     by_cases c40 : (ji38) < (x5_2.length : Int)
     rotate_left
     ·rw [if_neg c40] at H
      exact absurd H (by simp)
     rw [if_pos c40] at H
     have c40b0 : decide ((ji38) < (x5_2.length : Int)) = true := decide_eq_true c40
     clear c40
     by_cases c41 : 0 ≤ x7_2
     rotate_left
     ·rw [if_neg c41] at H
      exact absurd H (by simp)
     rw [if_pos c41] at H
     have c41b0 : decide (0 ≤ x7_2) = true := decide_eq_true c41
     clear c41
     by_cases c42 : x7_2 < ((rd_L6 x5_2 (ji38)).length : Int)
     rotate_left
     ·rw [if_neg c42] at H
      exact absurd H (by simp)
     rw [if_pos c42] at H
     have c42b0 : decide (x7_2 < ((rd_L6 x5_2 (ji38)).length : Int)) = true := decide_eq_true c42
     clear c42
     obtain ⟨ji43, hji43⟩ : ∃ j_ : Int, (wrap64 (x7_2 + 1)) = j_ := ⟨_, rfl⟩
     replace H : (if 0 ≤ (ji43) then (if (ji43) < ((rd_L6 x5_2 x6_1).length : Int) then (if (ji43) < ((rd_L6 x5_2 (ji38)).length : Int) then (if x6_1 < (l0.length : Int) then (if x7_2 < (l1.length : Int) then ((salchowref25_Turn.f ((rd_T50 l0 x6_1).f0) ((rd_T50 l0 x6_1).f1) ((rd_T50 l0 x6_1).f2) ((rd_T50 l0 x6_1).f3) ((rd_T50 l0 x6_1).f4) ((rd_T50 l1 x7_2).f0) ((rd_T50 l1 x7_2).f1) ((rd_T50 l1 x7_2).f2) ((rd_T50 l1 x7_2).f3) ((rd_T50 l1 x7_2).f4)).bind fun t282 => ((salchowref25_Cost.f k2 t282).bind fun t283 => (if x7_2 < ((rd_L6 x5_2 x6_1).length : Int) then (salchowref25_Table.l1 k2 l0 l1 (x5_2.set (x6_1 : Int).toNat ((rd_L6 x5_2 x6_1).set (x7_2 : Int).toNat (mn (mn (wrap64 ((rd (rd_L6 x5_2 (ji38)) x7_2) + 2)) (wrap64 ((rd (rd_L6 x5_2 x6_1) (ji43)) + 2))) (wrap64 ((rd (rd_L6 x5_2 (ji38)) (ji43)) + t283))))) x6_1 (wrap64 (x7_2 - 1))) else (none)))) else (none)) else (none)) else (none)) else (none)) else (none)) = some r := by first | (rw [hji43] at H; exact H) | (simp only [hji43] at H ⊢; exact H)
     have hji43w : (IntKind.i64.wrap (x7_2 + 1)) = ji43 := (i64_w _).trans hji43
     by_cases c44 : 0 ≤ (ji43)
     rotate_left
     ·rw [if_neg c44] at H
      exact absurd H (by simp)
     rw [if_pos c44] at H
     have c44b0 : decide (0 ≤ (ji43)) = true := decide_eq_true c44
     clear c44
     by_cases c45 : (ji43) < ((rd_L6 x5_2 x6_1).length : Int)
     rotate_left
     ·rw [if_neg c45] at H
      exact absurd H (by simp)
     rw [if_pos c45] at H
     have c45b0 : decide ((ji43) < ((rd_L6 x5_2 x6_1).length : Int)) = true := decide_eq_true c45
     clear c45
     by_cases c46 : (ji43) < ((rd_L6 x5_2 (ji38)).length : Int)
     rotate_left
     ·rw [if_neg c46] at H
      exact absurd H (by simp)
     rw [if_pos c46] at H
     have c46b0 : decide ((ji43) < ((rd_L6 x5_2 (ji38)).length : Int)) = true := decide_eq_true c46
     clear c46
     by_cases c47 : x6_1 < (l0.length : Int)
     rotate_left
     ·rw [if_neg c47] at H
      exact absurd H (by simp)
     rw [if_pos c47] at H
     have c47b0 : decide (x6_1 < (l0.length : Int)) = true := decide_eq_true c47
     clear c47
     by_cases c48 : x7_2 < (l1.length : Int)
     rotate_left
     ·rw [if_neg c48] at H
      exact absurd H (by simp)
     rw [if_pos c48] at H
     have c48b0 : decide (x7_2 < (l1.length : Int)) = true := decide_eq_true c48
     clear c48
     replace H := Option.bind_eq_some_iff.mp H
     obtain ⟨t282, A490, H⟩ := H
     replace H : ((salchowref25_Cost.f k2 t282).bind fun t283 => (if x7_2 < ((rd_L6 x5_2 x6_1).length : Int) then (salchowref25_Table.l1 k2 l0 l1 (x5_2.set (x6_1 : Int).toNat ((rd_L6 x5_2 x6_1).set (x7_2 : Int).toNat (mn (mn (wrap64 ((rd (rd_L6 x5_2 (ji38)) x7_2) + 2)) (wrap64 ((rd (rd_L6 x5_2 x6_1) (ji43)) + 2))) (wrap64 ((rd (rd_L6 x5_2 (ji38)) (ji43)) + t283))))) x6_1 (wrap64 (x7_2 - 1))) else (none))) = some r := H
     have A49 := aS A490
     clear A490
     replace H := Option.bind_eq_some_iff.mp H
     obtain ⟨t283, A500, H⟩ := H
     replace H : (if x7_2 < ((rd_L6 x5_2 x6_1).length : Int) then (salchowref25_Table.l1 k2 l0 l1 (x5_2.set (x6_1 : Int).toNat ((rd_L6 x5_2 x6_1).set (x7_2 : Int).toNat (mn (mn (wrap64 ((rd (rd_L6 x5_2 (ji38)) x7_2) + 2)) (wrap64 ((rd (rd_L6 x5_2 x6_1) (ji43)) + 2))) (wrap64 ((rd (rd_L6 x5_2 (ji38)) (ji43)) + t283))))) x6_1 (wrap64 (x7_2 - 1))) else (none)) = some r := H
     have A50 := aS A500
     clear A500
     obtain ⟨ji51, hji51⟩ : ∃ j_ : Int, (mn (wrap64 ((rd (rd_L6 x5_2 (ji38)) x7_2) + 2)) (wrap64 ((rd (rd_L6 x5_2 x6_1) (ji43)) + 2))) = j_ := ⟨_, rfl⟩
     replace H : (if x7_2 < ((rd_L6 x5_2 x6_1).length : Int) then (salchowref25_Table.l1 k2 l0 l1 (x5_2.set (x6_1 : Int).toNat ((rd_L6 x5_2 x6_1).set (x7_2 : Int).toNat (mn (ji51) (wrap64 ((rd (rd_L6 x5_2 (ji38)) (ji43)) + t283))))) x6_1 (wrap64 (x7_2 - 1))) else (none)) = some r := by first | (rw [hji51] at H; exact H) | (simp only [hji51] at H ⊢; exact H)
     (try rw [hji51] at A49)
     (try rw [hji51] at A50)
     have hji51_ : (if (wrap64 ((rd (rd_L6 x5_2 x6_1) (ji43)) + 2)) < (wrap64 ((rd (rd_L6 x5_2 (ji38)) x7_2) + 2)) then (wrap64 ((rd (rd_L6 x5_2 x6_1) (ji43)) + 2)) else (wrap64 ((rd (rd_L6 x5_2 (ji38)) x7_2) + 2))) = ji51 := hji51
     obtain ⟨ji52, hji52⟩ : ∃ j_ : Int, (mn (ji51) (wrap64 ((rd (rd_L6 x5_2 (ji38)) (ji43)) + t283))) = j_ := ⟨_, rfl⟩
     replace H : (if x7_2 < ((rd_L6 x5_2 x6_1).length : Int) then (salchowref25_Table.l1 k2 l0 l1 (x5_2.set (x6_1 : Int).toNat ((rd_L6 x5_2 x6_1).set (x7_2 : Int).toNat (ji52))) x6_1 (wrap64 (x7_2 - 1))) else (none)) = some r := by first | (rw [hji52] at H; exact H) | (simp only [hji52] at H ⊢; exact H)
     (try rw [hji52] at A49)
     (try rw [hji52] at A50)
     have hji52_ : (if (wrap64 ((rd (rd_L6 x5_2 (ji38)) (ji43)) + t283)) < (ji51) then (wrap64 ((rd (rd_L6 x5_2 (ji38)) (ji43)) + t283)) else (ji51)) = ji52 := hji52
     by_cases c53 : x7_2 < ((rd_L6 x5_2 x6_1).length : Int)
     rotate_left
     ·rw [if_neg c53] at H
      exact absurd H (by simp)
     rw [if_pos c53] at H
     have c53b0 : decide (x7_2 < ((rd_L6 x5_2 x6_1).length : Int)) = true := decide_eq_true c53
     clear c53
     obtain ⟨y284, hy284⟩ : ∃ y_ : List Int, y_ = ((rd_L6 x5_2 x6_1).set (x7_2 : Int).toNat (ji52)) := ⟨_, rfl⟩
     replace H : (salchowref25_Table.l1 k2 l0 l1 (x5_2.set (x6_1 : Int).toNat y284) x6_1 (wrap64 (x7_2 - 1))) = some r := by first | (rw [hy284]; with_reducible exact H) | (have H2_ := (Option.bind_some _ _).symm.trans H; rw [hy284]; with_reducible exact H2_) | (have H2_ := (Option.bind_some _ _).symm.trans H; with_reducible exact H2_) | with_reducible exact H | (rw [hy284]; exact H) | exact H
     have Ny284 := aS hy284
     clear hy284
     obtain ⟨y286, hy286⟩ : ∃ y_ : List (List Int), y_ = (x5_2.set (x6_1 : Int).toNat y284) := ⟨_, rfl⟩
     replace H : (salchowref25_Table.l1 k2 l0 l1 y286 x6_1 (wrap64 (x7_2 - 1))) = some r := by first | (rw [hy286]; with_reducible exact H) | (have H2_ := (Option.bind_some _ _).symm.trans H; rw [hy286]; with_reducible exact H2_) | (have H2_ := (Option.bind_some _ _).symm.trans H; with_reducible exact H2_) | with_reducible exact H | (rw [hy286]; exact H) | exact H
     have Ny286 := aS hy286
     clear hy286
     have H' := aS H
     clear H
     try go_wp2
     have n0_ := aS (Kd.S_drew HO_5.out)
     have n1_ := aS (below_drew1 HB.out)
     clear HO_5
     clear HB
     have HO_5 := n0_
     have HB := n1_
     clear n0_ n1_
     have p273 : 0 ≤ (x6_1 : Int) := of_decide_eq_true (by first | (with_reducible assumption) | assumption)
     have q273 : x6_1 < (x5_2.length : Int) := of_decide_eq_true (by first | (with_reducible assumption) | assumption)
     obtain ⟨ad273, A273_0, c273_0, e273, hx273_0, hl273_0, hi273_0⟩ := at_L6 (Kd.S_reads' HO_5.out).2.2 x6_1 p273 q273
     obtain rfl : (⟨go14, 0, none⟩ : Addr) = ad273 := (by injection e273)
     obtain ⟨ce273, hce273, hMe273, hcc273⟩ := Kd.S_get HO_5.out [] x6_1 p273 (by first | exact q273 | exact of_decide_eq_true (by first | (with_reducible assumption) | assumption) | (have e_ := (Kd.S_reads' HO_5.out).1; omega))
     obtain ⟨ve273_0, rfl, ge273_0⟩ := hMe273
     have hv273_0 := hcc273 0 _ rfl
     rw [Nat.add_zero, show ((Kd.slice 3 (Kd.int .i64))).sz = 1 from rfl, Nat.mul_one] at hv273_0
     replace hv273_0 := Option.some.inj (hv273_0.symm.trans hx273_0)
     rw [hv273_0] at ge273_0
     have HL273_0 := aS (show Kd.R (Kd.int .i64) 3 _ _ _ _ (rd_L6 x5_2 x6_1) from ge273_0)
     clear hv273_0 ge273_0
     have HX273_0 := aS hx273_0
     clear hcc273 hce273
     (first | simp only [add_plain] at hx273_0 | simp only [add_at] at hx273_0 | simp only [Addr.add, Nat.zero_add] at hx273_0 | skip)
     have HR273_0 := aS hi273_0
     have HC273_0 := aS hl273_0
     clear hi273_0 hl273_0
     replace p273 := eq_true p273
     replace q273 := eq_true q273
     have p274 : 0 ≤ ((ji38) : Int) := of_decide_eq_true (by first | (with_reducible assumption) | assumption)
     have q274 : (ji38) < (x5_2.length : Int) := of_decide_eq_true (by first | (with_reducible assumption) | assumption)
     obtain ⟨ad274, A274_0, c274_0, e274, hx274_0, hl274_0, hi274_0⟩ := at_L6 (Kd.S_reads' HO_5.out).2.2 (ji38) p274 q274
     obtain rfl : (⟨go14, 0, none⟩ : Addr) = ad274 := (by injection e274)
     obtain ⟨ce274, hce274, hMe274, hcc274⟩ := Kd.S_get HO_5.out [] (ji38) p274 (by first | exact q274 | exact of_decide_eq_true (by first | (with_reducible assumption) | assumption) | (have e_ := (Kd.S_reads' HO_5.out).1; omega))
     obtain ⟨ve274_0, rfl, ge274_0⟩ := hMe274
     have hv274_0 := hcc274 0 _ rfl
     rw [Nat.add_zero, show ((Kd.slice 3 (Kd.int .i64))).sz = 1 from rfl, Nat.mul_one] at hv274_0
     replace hv274_0 := Option.some.inj (hv274_0.symm.trans hx274_0)
     rw [hv274_0] at ge274_0
     have HL274_0 := aS (show Kd.R (Kd.int .i64) 3 _ _ _ _ (rd_L6 x5_2 (ji38)) from ge274_0)
     clear hv274_0 ge274_0
     have HX274_0 := aS hx274_0
     clear hcc274 hce274
     (first | simp only [add_plain] at hx274_0 | simp only [add_at] at hx274_0 | simp only [Addr.add, Nat.zero_add] at hx274_0 | skip)
     have HR274_0 := aS hi274_0
     have HC274_0 := aS hl274_0
     clear hi274_0 hl274_0
     replace p274 := eq_true p274
     replace q274 := eq_true q274
     have p275 : 0 ≤ (x7_2 : Int) := of_decide_eq_true (by first | (with_reducible assumption) | assumption)
     have q275 : x7_2 < ((rd_L6 x5_2 (ji38)).length : Int) := of_decide_eq_true (by first | (with_reducible assumption) | assumption)
     obtain ⟨ad275, e275, hx275_0⟩ := Kd.at_int (by repeat (first | (with_reducible exact HR274_0.out) | (with_reducible apply Kd.C_alloc) | (with_reducible apply Kd.C_drewN) | (with_reducible apply Kd.C_drew) | exact HR274_0.out)) x7_2 p275 q275
     cases e275
     replace p275 := eq_true p275
     replace q275 := eq_true q275
     have p276 : 0 ≤ (x6_1 : Int) := of_decide_eq_true (by first | (with_reducible assumption) | assumption)
     have q276 : x6_1 < (x5_2.length : Int) := of_decide_eq_true (by first | (with_reducible assumption) | assumption)
     obtain ⟨ad276, A276_0, c276_0, e276, hx276_0, hl276_0, hi276_0⟩ := at_L6 (Kd.S_reads' HO_5.out).2.2 x6_1 p276 q276
     obtain rfl : (⟨go14, 0, none⟩ : Addr) = ad276 := (by injection e276)
     obtain ⟨ce276, hce276, hMe276, hcc276⟩ := Kd.S_get HO_5.out [] x6_1 p276 (by first | exact q276 | exact of_decide_eq_true (by first | (with_reducible assumption) | assumption) | (have e_ := (Kd.S_reads' HO_5.out).1; omega))
     obtain ⟨ve276_0, rfl, ge276_0⟩ := hMe276
     have hv276_0 := hcc276 0 _ rfl
     rw [Nat.add_zero, show ((Kd.slice 3 (Kd.int .i64))).sz = 1 from rfl, Nat.mul_one] at hv276_0
     replace hv276_0 := Option.some.inj (hv276_0.symm.trans hx276_0)
     rw [hv276_0] at ge276_0
     have HL276_0 := aS (show Kd.R (Kd.int .i64) 3 _ _ _ _ (rd_L6 x5_2 x6_1) from ge276_0)
     clear hv276_0 ge276_0
     have HX276_0 := aS hx276_0
     clear hcc276 hce276
     (first | simp only [add_plain] at hx276_0 | simp only [add_at] at hx276_0 | simp only [Addr.add, Nat.zero_add] at hx276_0 | skip)
     have HR276_0 := aS hi276_0
     have HC276_0 := aS hl276_0
     clear hi276_0 hl276_0
     replace p276 := eq_true p276
     replace q276 := eq_true q276
     have ea_ := Option.some.inj (hx273_0.symm.trans hx276_0)
     injection ea_ with ea_ en_ ec_
     subst ea_
     subst ec_
     clear en_
     have p277 : 0 ≤ ((ji43) : Int) := of_decide_eq_true (by first | (with_reducible assumption) | assumption)
     have q277 : (ji43) < ((rd_L6 x5_2 x6_1).length : Int) := of_decide_eq_true (by first | (with_reducible assumption) | assumption)
     obtain ⟨ad277, e277, hx277_0⟩ := Kd.at_int (by repeat (first | (with_reducible exact HR276_0.out) | (with_reducible apply Kd.C_alloc) | (with_reducible apply Kd.C_drewN) | (with_reducible apply Kd.C_drew) | exact HR276_0.out)) (ji43) p277 q277
     cases e277
     replace p277 := eq_true p277
     replace q277 := eq_true q277
     have p278 : 0 ≤ ((ji38) : Int) := of_decide_eq_true (by first | (with_reducible assumption) | assumption)
     have q278 : (ji38) < (x5_2.length : Int) := of_decide_eq_true (by first | (with_reducible assumption) | assumption)
     obtain ⟨ad278, A278_0, c278_0, e278, hx278_0, hl278_0, hi278_0⟩ := at_L6 (Kd.S_reads' HO_5.out).2.2 (ji38) p278 q278
     obtain rfl : (⟨go14, 0, none⟩ : Addr) = ad278 := (by injection e278)
     obtain ⟨ce278, hce278, hMe278, hcc278⟩ := Kd.S_get HO_5.out [] (ji38) p278 (by first | exact q278 | exact of_decide_eq_true (by first | (with_reducible assumption) | assumption) | (have e_ := (Kd.S_reads' HO_5.out).1; omega))
     obtain ⟨ve278_0, rfl, ge278_0⟩ := hMe278
     have hv278_0 := hcc278 0 _ rfl
     rw [Nat.add_zero, show ((Kd.slice 3 (Kd.int .i64))).sz = 1 from rfl, Nat.mul_one] at hv278_0
     replace hv278_0 := Option.some.inj (hv278_0.symm.trans hx278_0)
     rw [hv278_0] at ge278_0
     have HL278_0 := aS (show Kd.R (Kd.int .i64) 3 _ _ _ _ (rd_L6 x5_2 (ji38)) from ge278_0)
     clear hv278_0 ge278_0
     have HX278_0 := aS hx278_0
     clear hcc278 hce278
     (first | simp only [add_plain] at hx278_0 | simp only [add_at] at hx278_0 | simp only [Addr.add, Nat.zero_add] at hx278_0 | skip)
     have HR278_0 := aS hi278_0
     have HC278_0 := aS hl278_0
     clear hi278_0 hl278_0
     replace p278 := eq_true p278
     replace q278 := eq_true q278
     have ea_ := Option.some.inj (hx274_0.symm.trans hx278_0)
     injection ea_ with ea_ en_ ec_
     subst ea_
     subst ec_
     clear en_
     have p279 : 0 ≤ ((ji43) : Int) := of_decide_eq_true (by first | (with_reducible assumption) | assumption)
     have q279 : (ji43) < ((rd_L6 x5_2 (ji38)).length : Int) := of_decide_eq_true (by first | (with_reducible assumption) | assumption)
     obtain ⟨ad279, e279, hx279_0⟩ := Kd.at_int (by repeat (first | (with_reducible exact HR278_0.out) | (with_reducible apply Kd.C_alloc) | (with_reducible apply Kd.C_drewN) | (with_reducible apply Kd.C_drew) | exact HR278_0.out)) (ji43) p279 q279
     cases e279
     replace p279 := eq_true p279
     replace q279 := eq_true q279
     have p280 : 0 ≤ (x6_1 : Int) := of_decide_eq_true (by first | (with_reducible assumption) | assumption)
     have q280 : x6_1 < (l0.length : Int) := of_decide_eq_true (by first | (with_reducible assumption) | assumption)
     obtain ⟨ad280, e280, hx280_0, hx280_1, hx280_2, hx280_3, hx280_4⟩ := at_T50 HR0.out x6_1 p280 q280
     have hw280_4 := hx280_4
     have hw280_3 := hx280_3
     have hw280_2 := hx280_2
     have hw280_1 := hx280_1
     have hw280_0 := hx280_0
     cases e280
     replace hx280_0 := hup HB.out hx280_0
     replace hx280_1 := hup HB.out hx280_1
     replace hx280_2 := hup HB.out hx280_2
     replace hx280_3 := hup HB.out hx280_3
     replace hx280_4 := hup HB.out hx280_4
     replace p280 := eq_true p280
     replace q280 := eq_true q280
     have p281 : 0 ≤ (x7_2 : Int) := of_decide_eq_true (by first | (with_reducible assumption) | assumption)
     have q281 : x7_2 < (l1.length : Int) := of_decide_eq_true (by first | (with_reducible assumption) | assumption)
     obtain ⟨ad281, e281, hx281_0, hx281_1, hx281_2, hx281_3, hx281_4⟩ := at_T50 HR1.out x7_2 p281 q281
     have hw281_4 := hx281_4
     have hw281_3 := hx281_3
     have hw281_2 := hx281_2
     have hw281_1 := hx281_1
     have hw281_0 := hx281_0
     cases e281
     replace hx281_0 := hup HB.out hx281_0
     replace hx281_1 := hup HB.out hx281_1
     replace hx281_2 := hup HB.out hx281_2
     replace hx281_3 := hup HB.out hx281_3
     replace hx281_4 := hup HB.out hx281_4
     replace p281 := eq_true p281
     replace q281 := eq_true q281
     refine start_ (n := 46) (S := fun w' => w'.cell? ⟨go14, (x6_1).toNat, none⟩ = some (.slice (some ad277) (rd_L6 x5_2 x6_1).length c273_0) ∧ w'.cell? ⟨go14, ((ji38)).toNat, none⟩ = some (.slice (some ad275) (rd_L6 x5_2 (ji38)).length c274_0) ∧ w'.cell? (ad275.add (x7_2).toNat) = some (.int .i64 (rd (rd_L6 x5_2 (ji38)) x7_2)) ∧ w'.cell? ⟨go14, (x6_1).toNat, none⟩ = some (.slice (some ad277) (rd_L6 x5_2 x6_1).length c273_0) ∧ w'.cell? (ad277.add ((ji43)).toNat) = some (.int .i64 (rd (rd_L6 x5_2 x6_1) (ji43))) ∧ w'.cell? ⟨go14, ((ji38)).toNat, none⟩ = some (.slice (some ad275) (rd_L6 x5_2 (ji38)).length c274_0) ∧ w'.cell? (ad275.add ((ji43)).toNat) = some (.int .i64 (rd (rd_L6 x5_2 (ji38)) (ji43))) ∧ w'.cell? (ad280.add ((x6_1).toNat * 5)) = some (.string ((rd_T50 l0 x6_1).f0)) ∧ w'.cell? ⟨(ad280.add ((x6_1).toNat * 5)).block, (ad280.add ((x6_1).toNat * 5)).off + 1, none⟩ = some (.int .i64 ((rd_T50 l0 x6_1).f1)) ∧ w'.cell? ⟨(ad280.add ((x6_1).toNat * 5)).block, (ad280.add ((x6_1).toNat * 5)).off + 2, none⟩ = some (.bool ((rd_T50 l0 x6_1).f2)) ∧ w'.cell? ⟨(ad280.add ((x6_1).toNat * 5)).block, (ad280.add ((x6_1).toNat * 5)).off + 3, none⟩ = some (.bool ((rd_T50 l0 x6_1).f3)) ∧ w'.cell? ⟨(ad280.add ((x6_1).toNat * 5)).block, (ad280.add ((x6_1).toNat * 5)).off + 4, none⟩ = some (.bool ((rd_T50 l0 x6_1).f4)) ∧ w'.cell? (ad281.add ((x7_2).toNat * 5)) = some (.string ((rd_T50 l1 x7_2).f0)) ∧ w'.cell? ⟨(ad281.add ((x7_2).toNat * 5)).block, (ad281.add ((x7_2).toNat * 5)).off + 1, none⟩ = some (.int .i64 ((rd_T50 l1 x7_2).f1)) ∧ w'.cell? ⟨(ad281.add ((x7_2).toNat * 5)).block, (ad281.add ((x7_2).toNat * 5)).off + 2, none⟩ = some (.bool ((rd_T50 l1 x7_2).f2)) ∧ w'.cell? ⟨(ad281.add ((x7_2).toNat * 5)).block, (ad281.add ((x7_2).toNat * 5)).off + 3, none⟩ = some (.bool ((rd_T50 l1 x7_2).f3)) ∧ w'.cell? ⟨(ad281.add ((x7_2).toNat * 5)).block, (ad281.add ((x7_2).toNat * 5)).off + 4, none⟩ = some (.bool ((rd_T50 l1 x7_2).f4))) (ds := [45]) #[false, false, false, false, false, false, false, false, false, false, false, false, false, false, false, false, false, false, false, false, false, false, false, false, false, false, false, false, false, false, false, false, false, false, false, false, false, false, false, false, false, false, false, false, false, false] (by kernel_rfl) rfl rfl ⟨hx273_0, hx274_0, hx275_0, hx276_0, hx277_0, hx278_0, hx279_0, (hup HB.out hw280_0), (hup HB.out hw280_1), (hup HB.out hw280_2), (hup HB.out hw280_3), (hup HB.out hw280_4), (hup HB.out hw281_0), (hup HB.out hw281_1), (hup HB.out hw281_2), (hup HB.out hw281_3), (hup HB.out hw281_4)⟩ (fun hHeld => ?_); refine with_tabW salchowref25_Table.tab9 salchowref25_Table.bits9 (fun HT_ HW_ => ?_)
     generalize wr.drew = w55 at HO_5 HB HL273_0 HL274_0 HL276_0 HL278_0 HR273_0 HR274_0 HR276_0 HR278_0 HX273_0 HX274_0 HX276_0 HX278_0 hx273_0 hx274_0 hx275_0 hx276_0 hx277_0 hx278_0 hx279_0 hx280_0 hx280_1 hx280_2 hx280_3 hx280_4 hx281_0 hx281_1 hx281_2 hx281_3 hx281_4 hHeld ⊢
     refine pure_ (i := 0) (N := some 31) (v := ?_) (a' := ?_) (bs 46 1) rfl rfl (any_of HT_.out (by kernel_rfl)) (fun _ _ _ h => h) (Or.inl ⟨by rfl, ?_⟩) ?_ ?_
     rotate_left
     ·intro w'
      go_simp
      with_reducible rfl
     rotate_left
     ·simp only [Act.put, sA, sZ, sS, i64_w, i32_w]
      rfl
     refine pure_ (i := 1) (N := some 32) (v := ?_) (a' := ?_) (bs 46 3) rfl rfl (any_of HT_.out (by kernel_rfl)) (fun _ _ _ h => h) (Or.inl ⟨by rfl, ?_⟩) ?_ ?_
     rotate_left
     ·intro w'
      go_simp
      with_reducible rfl
     rotate_left
     ·simp only [Act.put, sA, sZ, sS, i64_w, i32_w]
      rfl
     refine pure_ (i := 2) (N := some 33) (v := ?_) (a' := ?_) (bs 46 7) rfl rfl (any_of HT_.out (by kernel_rfl)) (fun _ _ _ h => h) (Or.inl ⟨by rfl, ?_⟩) ?_ ?_
     rotate_left
     ·intro w'
      go_simp
      with_reducible rfl
     rotate_left
     ·simp only [Act.put, sA, sZ, sS, i64_w, i32_w]
      rfl
     refine pure_ (i := 4) (N := some 35) (v := ?_) (a' := ?_) (bs 46 23) rfl rfl (any_of HT_.out (by kernel_rfl)) (fun _ _ _ h => h) (Or.inl ⟨by rfl, ?_⟩) ?_ ?_
     rotate_left
     ·intro w'
      go_simp
      with_reducible rfl
     rotate_left
     ·simp only [Act.put, sA, sZ, sS, i64_w, i32_w]
      rfl
     refine pure_ (i := 5) (N := some 36) (v := ?_) (a' := ?_) (bs 46 55) rfl rfl (any_of HT_.out (by kernel_rfl)) (fun _ _ _ h => h) (Or.inl ⟨by rfl, ?_⟩) ?_ ?_
     rotate_left
     ·intro w'
      go_simp
      with_reducible rfl
     rotate_left
     ·simp only [Act.put, sA, sZ, sS, i64_w, i32_w]
      rfl
     refine pure_ (i := 6) (N := some 37) (v := ?_) (a' := ?_) (bs 46 119) rfl rfl (any_of HT_.out (by kernel_rfl)) (fun _ _ _ h => h) (Or.inl ⟨by rfl, ?_⟩) ?_ ?_
     rotate_left
     ·intro w'
      go_simp
      with_reducible rfl
     rotate_left
     ·simp only [Act.put, sA, sZ, sS, i64_w, i32_w]
      rfl
     refine pure_ (i := 7) (N := some 38) (v := ?_) (a' := ?_) (bs 46 247) rfl rfl (any_of HT_.out (by kernel_rfl)) (fun _ _ _ h => h) (Or.inl ⟨by rfl, ?_⟩) ?_ ?_
     rotate_left
     ·intro w'
      go_simp
      with_reducible rfl
     rotate_left
     ·simp only [Act.put, sA, sZ, sS, i64_w, i32_w]
      rfl
     refine pure_ (i := 8) (N := some 39) (v := ?_) (a' := ?_) (bs 46 503) rfl rfl (any_of HT_.out (by kernel_rfl)) (fun _ _ _ h => h) (Or.inl ⟨by rfl, ?_⟩) ?_ ?_
     rotate_left
     ·intro w'
      go_simp
      with_reducible rfl
     rotate_left
     ·simp only [Act.put, sA, sZ, sS, i64_w, i32_w]
      rfl
     refine pure_ (i := 10) (N := some 41) (v := ?_) (a' := ?_) (bs 46 1527) rfl rfl (any_of HT_.out (by kernel_rfl)) (fun _ _ _ h => h) (Or.inl ⟨by rfl, ?_⟩) ?_ ?_
     rotate_left
     ·intro w'
      go_simp
      with_reducible rfl
     rotate_left
     ·simp only [Act.put, sA, sZ, sS, i64_w, i32_w]
      rfl
     refine pure_ (i := 14) (N := some 45) (v := ?_) (a' := ?_) (bs 46 17911) rfl rfl (any_of HT_.out (by kernel_rfl)) (fun _ _ _ h => h) (Or.inl ⟨by rfl, ?_⟩) ?_ ?_
     rotate_left
     ·intro w'
      go_simp
      with_reducible rfl
     rotate_left
     ·simp only [Act.put, sA, sZ, sS, i64_w, i32_w]
      rfl
     refine pure_ (i := 15) (N := some 46) (v := ?_) (a' := ?_) (bs 46 50679) rfl rfl (any_of HT_.out (by kernel_rfl)) (fun _ _ _ h => h) (Or.inl ⟨by rfl, ?_⟩) ?_ ?_
     rotate_left
     ·intro w'
      go_simp
      with_reducible rfl
     rotate_left
     ·simp only [Act.put, sA, sZ, sS, i64_w, i32_w]
      rfl
     refine pure_ (i := 16) (N := some 47) (v := ?_) (a' := ?_) (bs 46 116215) rfl rfl (any_of HT_.out (by kernel_rfl)) (fun _ _ _ h => h) (Or.inl ⟨by rfl, ?_⟩) ?_ ?_
     rotate_left
     ·intro w'
      go_simp
      with_reducible rfl
     rotate_left
     ·simp only [Act.put, sA, sZ, sS, i64_w, i32_w]
      rfl
     refine pure_ (i := 18) (N := some 49) (v := ?_) (a' := ?_) (bs 46 378359) rfl rfl (any_of HT_.out (by kernel_rfl)) (fun _ _ _ h => h) (Or.inl ⟨by rfl, ?_⟩) ?_ ?_
     rotate_left
     ·intro w'
      go_simp
      with_reducible rfl
     rotate_left
     ·simp only [Act.put, sA, sZ, sS, i64_w, i32_w]
      rfl
     refine pure_ (i := 19) (N := some 50) (v := ?_) (a' := ?_) (bs 46 902647) rfl rfl (any_of HT_.out (by kernel_rfl)) (fun _ _ _ h => h) (Or.inl ⟨by rfl, ?_⟩) ?_ ?_
     rotate_left
     ·intro w'
      go_simp
      with_reducible rfl
     rotate_left
     ·simp only [Act.put, sA, sZ, sS, i64_w, i32_w]
      rfl
     refine pure_ (i := 23) (N := some 54) (v := ?_) (a' := ?_) (bs 46 9291255) rfl rfl (any_of HT_.out (by kernel_rfl)) (fun _ _ _ h => h) (Or.inl ⟨by rfl, ?_⟩) ?_ ?_
     rotate_left
     ·intro w'
      go_simp
      with_reducible rfl
     rotate_left
     ·simp only [Act.put, sA, sZ, sS, i64_w, i32_w]
      rfl
     refine pure_ (i := 24) (N := some 55) (v := ?_) (a' := ?_) (bs 46 26068471) rfl rfl (any_of HT_.out (by kernel_rfl)) (fun _ _ _ h => h) (Or.inl ⟨by rfl, ?_⟩) ?_ ?_
     rotate_left
     ·intro w'
      go_simp
      with_reducible rfl
     rotate_left
     ·simp only [Act.put, sA, sZ, sS, i64_w, i32_w]
      rfl
     refine pure_ (i := 25) (N := some 56) (v := ?_) (a' := ?_) (bs 46 59622903) rfl rfl (any_of HT_.out (by kernel_rfl)) (fun _ _ _ h => h) (Or.inl ⟨by rfl, ?_⟩) ?_ ?_
     rotate_left
     ·intro w'
      go_simp
      with_reducible rfl
     rotate_left
     ·simp only [Act.put, sA, sZ, sS, i64_w, i32_w]
      rfl
     refine pure_ (i := 26) (N := some 57) (v := ?_) (a' := ?_) (bs 46 126731767) rfl rfl (any_of HT_.out (by kernel_rfl)) (fun _ _ _ h => h) (Or.inl ⟨by rfl, ?_⟩) ?_ ?_
     rotate_left
     ·intro w'
      go_simp
      with_reducible rfl
     rotate_left
     ·simp only [Act.put, sA, sZ, sS, i64_w, i32_w]
      rfl
     refine pure_ (i := 28) (N := some 59) (v := ?_) (a' := ?_) (bs 46 395167223) rfl rfl (any_of HT_.out (by kernel_rfl)) (fun _ _ _ h => h) (Or.inl ⟨by rfl, ?_⟩) ?_ ?_
     rotate_left
     ·intro w'
      go_simp
      with_reducible rfl
     rotate_left
     ·simp only [Act.put, sA, sZ, sS, i64_w, i32_w]
      rfl
     refine pure_ (i := 29) (N := some 60) (v := ?_) (a' := ?_) (bs 46 932038135) rfl rfl (any_of HT_.out (by kernel_rfl)) (fun _ _ _ h => h) (Or.inl ⟨by rfl, ?_⟩) ?_ ?_
     rotate_left
     ·intro w'
      go_simp
      with_reducible rfl
     rotate_left
     ·simp only [Act.put, sA, sZ, sS, i64_w, i32_w]
      rfl
     refine pure_ (i := 32) (N := some 63) (v := ?_) (a' := ?_) (bs 46 5227005431) rfl rfl (any_of HT_.out (by kernel_rfl)) (fun _ _ _ h => h) (Or.inl ⟨by rfl, ?_⟩) ?_ ?_
     rotate_left
     ·intro w'
      go_simp
      with_reducible rfl
     rotate_left
     ·simp only [Act.put, sA, sZ, sS, i64_w, i32_w]
      rfl
     refine pure_ (i := 33) (N := some 64) (v := ?_) (a' := ?_) (bs 46 13816940023) rfl rfl (any_of HT_.out (by kernel_rfl)) (fun _ _ _ h => h) (Or.inl ⟨by rfl, ?_⟩) ?_ ?_
     rotate_left
     ·intro w'
      go_simp
      with_reducible rfl
     rotate_left
     ·simp only [Act.put, sA, sZ, sS, i64_w, i32_w]
      rfl
     refine pure_ (i := 34) (N := some 65) (v := ?_) (a' := ?_) (bs 46 30996809207) rfl rfl (any_of HT_.out (by kernel_rfl)) (fun _ _ _ h => h) (Or.inl ⟨by rfl, ?_⟩) ?_ ?_
     rotate_left
     ·intro w'
      go_simp
      with_reducible rfl
     rotate_left
     ·simp only [Act.put, sA, sZ, sS, i64_w, i32_w]
      rfl
     refine pure_ (i := 36) (N := some 67) (v := ?_) (a' := ?_) (bs 46 99716285943) rfl rfl (any_of HT_.out (by kernel_rfl)) (fun _ _ _ h => h) (Or.inl ⟨by rfl, ?_⟩) ?_ ?_
     rotate_left
     ·intro w'
      go_simp
      with_reducible rfl
     rotate_left
     ·simp only [Act.put, sA, sZ, sS, i64_w, i32_w]
      rfl
     refine pure_ (i := 37) (N := some 68) (v := ?_) (a' := ?_) (bs 46 237155239415) rfl rfl (any_of HT_.out (by kernel_rfl)) (fun _ _ _ h => h) (Or.inl ⟨by rfl, ?_⟩) ?_ ?_
     rotate_left
     ·intro w'
      go_simp
      with_reducible rfl
     rotate_left
     ·simp only [Act.put, sA, sZ, sS, i64_w, i32_w]
      rfl
     refine pure_ (i := 38) (N := some 69) (v := ?_) (a' := ?_) (bs 46 512033146359) rfl rfl (any_of HT_.out (by kernel_rfl)) (fun _ _ _ h => h) (Or.inl ⟨by rfl, ?_⟩) ?_ ?_
     rotate_left
     ·intro w'
      go_simp
      with_reducible rfl
     rotate_left
     ·simp only [Act.put, sA, sZ, sS, i64_w, i32_w]
      rfl
     refine take_ (i := 3) (N := some 34) (v := ?_) (a' := ?_) (bs 46 512033146367) rfl rfl (take_ofW HT_.out HW_.out (by kernel_rfl)) (fun _ _ _ h => h) (Or.inl ⟨by rfl, ?_⟩) hHeld ?_ ?_
     rotate_left
     ·rintro w' ⟨s0, s1, s2, s3, s4, s5, s6, s7, s8, s9, s10, s11, s12, s13, s14, s15, s16⟩
      go_simp
      with_reducible rfl
     rotate_left
     ·simp only [Act.put, sA, sZ, sS, i64_w, i32_w]
      rfl
     refine take_ (i := 9) (N := some 40) (v := ?_) (a' := ?_) (bs 46 512033146879) rfl rfl (take_ofW HT_.out HW_.out (by kernel_rfl)) (fun _ _ _ h => h) (Or.inl ⟨by rfl, ?_⟩) hHeld ?_ ?_
     rotate_left
     ·rintro w' ⟨s0, s1, s2, s3, s4, s5, s6, s7, s8, s9, s10, s11, s12, s13, s14, s15, s16⟩
      go_simp
      with_reducible rfl
     rotate_left
     ·simp only [Act.put, sA, sZ, sS, i64_w, i32_w]
      rfl
     refine pure_ (i := 11) (N := some 42) (v := ?_) (a' := ?_) (bs 46 512033148927) rfl rfl (any_of HT_.out (by kernel_rfl)) (fun _ _ _ h => h) (Or.inl ⟨by rfl, ?_⟩) ?_ ?_
     rotate_left
     ·intro w'
      go_simp
      with_reducible rfl
     rotate_left
     ·simp only [Act.put, sA, sZ, sS, i64_w, i32_w]
      rfl
     refine take_ (i := 12) (N := some 43) (v := ?_) (a' := ?_) (bs 46 512033153023) rfl rfl (take_ofW HT_.out HW_.out (by kernel_rfl)) (fun _ _ _ h => h) (Or.inl ⟨by rfl, ?_⟩) hHeld ?_ ?_
     rotate_left
     ·rintro w' ⟨s0, s1, s2, s3, s4, s5, s6, s7, s8, s9, s10, s11, s12, s13, s14, s15, s16⟩
      go_simp
      with_reducible rfl
     rotate_left
     ·simp only [Act.put, sA, sZ, sS, i64_w, i32_w]
      rfl
     refine pure_ (i := 13) (N := some 44) (v := ?_) (a' := ?_) (bs 46 512033161215) rfl rfl (any_of HT_.out (by kernel_rfl)) (fun _ _ _ h => h) (Or.inl ⟨by rfl, ?_⟩) ?_ ?_
     rotate_left
     ·intro w'
      go_simp
      with_reducible rfl
     rotate_left
     ·simp only [Act.put, sA, sZ, sS, i64_w, i32_w]
      rfl
     refine take_ (i := 17) (N := some 48) (v := ?_) (a' := ?_) (bs 46 512033292287) rfl rfl (take_ofW HT_.out HW_.out (by kernel_rfl)) (fun _ _ _ h => h) (Or.inl ⟨by rfl, ?_⟩) hHeld ?_ ?_
     rotate_left
     ·rintro w' ⟨s0, s1, s2, s3, s4, s5, s6, s7, s8, s9, s10, s11, s12, s13, s14, s15, s16⟩
      go_simp
      with_reducible rfl
     rotate_left
     ·simp only [Act.put, sA, sZ, sS, i64_w, i32_w]
      rfl
     refine pure_ (i := 20) (N := some 51) (v := ?_) (a' := ?_) (bs 46 512034340863) rfl rfl (any_of HT_.out (by kernel_rfl)) (fun _ _ _ h => h) (Or.inl ⟨by rfl, ?_⟩) ?_ ?_
     rotate_left
     ·intro w'
      go_simp
      with_reducible rfl
     rotate_left
     ·simp only [Act.put, sA, sZ, sS, i64_w, i32_w]
      rfl
     refine take_ (i := 21) (N := some 52) (v := ?_) (a' := ?_) (bs 46 512036438015) rfl rfl (take_ofW HT_.out HW_.out (by kernel_rfl)) (fun _ _ _ h => h) (Or.inl ⟨by rfl, ?_⟩) hHeld ?_ ?_
     rotate_left
     ·rintro w' ⟨s0, s1, s2, s3, s4, s5, s6, s7, s8, s9, s10, s11, s12, s13, s14, s15, s16⟩
      go_simp
      with_reducible rfl
     rotate_left
     ·simp only [Act.put, sA, sZ, sS, i64_w, i32_w]
      rfl
     refine pure_ (i := 22) (N := some 53) (v := ?_) (a' := ?_) (bs 46 512040632319) rfl rfl (any_of HT_.out (by kernel_rfl)) (fun _ _ _ h => h) (Or.inl ⟨by rfl, ?_⟩) ?_ ?_
     rotate_left
     ·intro w'
      go_simp
      with_reducible rfl
     rotate_left
     ·simp only [Act.put, sA, sZ, sS, i64_w, i32_w]
      rfl
     refine take_ (i := 27) (N := some 58) (v := ?_) (a' := ?_) (bs 46 512174850047) rfl rfl (take_ofW HT_.out HW_.out (by kernel_rfl)) (fun _ _ _ h => h) (Or.inl ⟨by rfl, ?_⟩) hHeld ?_ ?_
     rotate_left
     ·rintro w' ⟨s0, s1, s2, s3, s4, s5, s6, s7, s8, s9, s10, s11, s12, s13, s14, s15, s16⟩
      go_simp
      with_reducible rfl
     rotate_left
     ·simp only [Act.put, sA, sZ, sS, i64_w, i32_w]
      rfl
     refine pure_ (i := 30) (N := some 61) (v := ?_) (a' := ?_) (bs 46 513248591871) rfl rfl (any_of HT_.out (by kernel_rfl)) (fun _ _ _ h => h) (Or.inl ⟨by rfl, ?_⟩) ?_ ?_
     rotate_left
     ·intro w'
      go_simp
      with_reducible rfl
     rotate_left
     ·simp only [Act.put, sA, sZ, sS, i64_w, i32_w]
      rfl
     refine take_ (i := 31) (N := some 62) (v := ?_) (a' := ?_) (bs 46 515396075519) rfl rfl (take_ofW HT_.out HW_.out (by kernel_rfl)) (fun _ _ _ h => h) (Or.inl ⟨by rfl, ?_⟩) hHeld ?_ ?_
     rotate_left
     ·rintro w' ⟨s0, s1, s2, s3, s4, s5, s6, s7, s8, s9, s10, s11, s12, s13, s14, s15, s16⟩
      go_simp
      with_reducible rfl
     rotate_left
     ·simp only [Act.put, sA, sZ, sS, i64_w, i32_w]
      rfl
     refine take_ (i := 35) (N := some 66) (v := ?_) (a' := ?_) (bs 46 549755813887) rfl rfl (take_ofW HT_.out HW_.out (by kernel_rfl)) (fun _ _ _ h => h) (Or.inl ⟨by rfl, ?_⟩) hHeld ?_ ?_
     rotate_left
     ·rintro w' ⟨s0, s1, s2, s3, s4, s5, s6, s7, s8, s9, s10, s11, s12, s13, s14, s15, s16⟩
      go_simp
      with_reducible rfl
     rotate_left
     ·simp only [Act.put, sA, sZ, sS, i64_w, i32_w]
      rfl
     refine take_ (i := 39) (N := some 70) (v := ?_) (a' := ?_) (bs 46 1099511627775) rfl rfl (take_ofW HT_.out HW_.out (by kernel_rfl)) (fun _ _ _ h => h) (Or.inl ⟨by rfl, ?_⟩) hHeld ?_ ?_
     rotate_left
     ·rintro w' ⟨s0, s1, s2, s3, s4, s5, s6, s7, s8, s9, s10, s11, s12, s13, s14, s15, s16⟩
      go_simp
      with_reducible rfl
     rotate_left
     ·simp only [Act.put, sA, sZ, sS, i64_w, i32_w]
      rfl
     refine one_ (i := 40) (N := some 71) (bs 46 2199023255551) rfl rfl (one_of HT_.out (by kernel_rfl)) (by decide) (fun K hK => ?_)
     refine goes_ Try.func36 (by kernel_rfl) rfl #[.agg #[.string ((rd_T50 l0 x6_1).f0), .int .i64 ((rd_T50 l0 x6_1).f1), .bool ((rd_T50 l0 x6_1).f2), .bool ((rd_T50 l0 x6_1).f3), .bool ((rd_T50 l0 x6_1).f4)], .agg #[.string ((rd_T50 l1 x7_2).f0), .int .i64 ((rd_T50 l1 x7_2).f1), .bool ((rd_T50 l1 x7_2).f2), .bool ((rd_T50 l1 x7_2).f3), .bool ((rd_T50 l1 x7_2).f4)]] (by rfl) rfl rfl (by (try simp only [List.map_toArray, List.map_cons, List.map_nil]); first | done | rfl | (simp only [List.length_drop, List.length_take]; rfl)) ?_
     with_reducible refine (salchowref25_Turn.calls ((rd_T50 l0 x6_1).f0) ((rd_T50 l0 x6_1).f1) ((rd_T50 l0 x6_1).f2) ((rd_T50 l0 x6_1).f3) ((rd_T50 l0 x6_1).f4) ((rd_T50 l1 x7_2).f0) ((rd_T50 l1 x7_2).f1) ((rd_T50 l1 x7_2).f2) ((rd_T50 l1 x7_2).f3) ((rd_T50 l1 x7_2).f4) t282 _ A49.out).mono ?_
     rintro e w56 ⟨rfl, hb⟩
     have HS0_ := (hb.cell (World.block_lt_of_cell? _ _ (hHeld.1))).trans (hHeld.1)
     have HS1_ := (hb.cell (World.block_lt_of_cell? _ _ (hHeld.2.1))).trans (hHeld.2.1)
     have HS2_ := (hb.cell (World.block_lt_of_cell? _ _ (hHeld.2.2.1))).trans (hHeld.2.2.1)
     have HS3_ := (hb.cell (World.block_lt_of_cell? _ _ (hHeld.2.2.2.1))).trans (hHeld.2.2.2.1)
     have HS4_ := (hb.cell (World.block_lt_of_cell? _ _ (hHeld.2.2.2.2.1))).trans (hHeld.2.2.2.2.1)
     have HS5_ := (hb.cell (World.block_lt_of_cell? _ _ (hHeld.2.2.2.2.2.1))).trans (hHeld.2.2.2.2.2.1)
     have HS6_ := (hb.cell (World.block_lt_of_cell? _ _ (hHeld.2.2.2.2.2.2.1))).trans (hHeld.2.2.2.2.2.2.1)
     refine ⟨_, rfl, ?_⟩
     have n0_ := aS (Kd.S_below (by (with_reducible repeat (first | apply Kd.S_alloc | apply Kd.S_drewN | apply Kd.S_drew)); exact HO_5.out) hb)
     have n1_ := aS (Kd.R_below (by exact rel <| HL273_0.out) hb)
     have n2_ := aS (Kd.R_below (by exact rel <| HL274_0.out) hb)
     have n3_ := aS (Kd.R_below (by exact rel <| HL276_0.out) hb)
     have n4_ := aS (Kd.R_below (by exact rel <| HL278_0.out) hb)
     have n5_ := aS (Kd.C_below (by repeat (first | (with_reducible exact HR273_0.out) | (with_reducible apply Kd.C_alloc) | (with_reducible apply Kd.C_drewN) | (with_reducible apply Kd.C_drew) | exact HR273_0.out)) hb)
     have n6_ := aS (pw_cell_below hb HX273_0.out)
     have n7_ := aS (Kd.C_below (by repeat (first | (with_reducible exact HR274_0.out) | (with_reducible apply Kd.C_alloc) | (with_reducible apply Kd.C_drewN) | (with_reducible apply Kd.C_drew) | exact HR274_0.out)) hb)
     have n8_ := aS (pw_cell_below hb HX274_0.out)
     have n9_ := aS (Kd.C_below (by repeat (first | (with_reducible exact HR276_0.out) | (with_reducible apply Kd.C_alloc) | (with_reducible apply Kd.C_drewN) | (with_reducible apply Kd.C_drew) | exact HR276_0.out)) hb)
     have n10_ := aS (pw_cell_below hb HX276_0.out)
     have n11_ := aS (Kd.C_below (by repeat (first | (with_reducible exact HR278_0.out) | (with_reducible apply Kd.C_alloc) | (with_reducible apply Kd.C_drewN) | (with_reducible apply Kd.C_drew) | exact HR278_0.out)) hb)
     have n12_ := aS (pw_cell_below hb HX278_0.out)
     have n13_ := aS (below_step (by first | exact bel HB.out | exact HB.out) hb)
     clear HO_5
     clear HL273_0
     clear HL274_0
     clear HL276_0
     clear HL278_0
     clear HR273_0
     clear HX273_0
     clear HR274_0
     clear HX274_0
     clear HR276_0
     clear HX276_0
     clear HR278_0
     clear HX278_0
     clear HB
     have HO_5 := n0_
     have HL273_0 := n1_
     have HL274_0 := n2_
     have HL276_0 := n3_
     have HL278_0 := n4_
     have HR273_0 := n5_
     have HX273_0 := n6_
     have HR274_0 := n7_
     have HX274_0 := n8_
     have HR276_0 := n9_
     have HX276_0 := n10_
     have HR278_0 := n11_
     have HX278_0 := n12_
     have HB := n13_
     clear n0_ n1_ n2_ n3_ n4_ n5_ n6_ n7_ n8_ n9_ n10_ n11_ n12_ n13_
     (try clear hb)
     (try clear hb2)
     (try clear hk)
     (try clear hi)
     refine hK.out _ _ ⟨HS0_, HS1_, HS2_, HS3_, HS4_, HS5_, HS6_, (hup HB.out hw280_0), (hup HB.out hw280_1), (hup HB.out hw280_2), (hup HB.out hw280_3), (hup HB.out hw280_4), (hup HB.out hw281_0), (hup HB.out hw281_1), (hup HB.out hw281_2), (hup HB.out hw281_3), (hup HB.out hw281_4)⟩ (fun hHeld => ?_)
     clear hK K
     refine norm_ (a' := ?_) ?_ ?_
     rotate_left
     ·show Act.put _ (some 71) _ = _
      simp only [Act.put, sA, sZ, sS, i64_w, i32_w]
      rfl
     refine one_ (i := 41) (N := some 72) (bs 46 4398046511103) rfl rfl (one_of HT_.out (by kernel_rfl)) (by decide) (fun K hK => ?_)
     refine goes_ Try.func31 (by kernel_rfl) rfl #[.int .i64 t282] (by rfl) rfl rfl (by (try simp only [List.map_toArray, List.map_cons, List.map_nil]); first | done | rfl | (simp only [List.length_drop, List.length_take]; rfl)) ?_
     with_reducible refine (salchowref25_Cost.calls k2 t282 t283 _ A50.out).mono ?_
     rintro e w' ⟨rfl, ⟨nd, rfl⟩⟩
     refine ⟨_, rfl, ?_⟩
     have p54 : 0 ≤ (x7_2 : Int) := of_decide_eq_true (by first | (with_reducible assumption) | assumption)
     have q54 : (x7_2 : Int) < (((rd_L6 x5_2 x6_1).length : Int) : Int) := of_decide_eq_true (by first | (with_reducible assumption) | assumption)
     obtain ⟨go54, co54, eo54, gb54, gl54, cl54, HG54⟩ := Kd.R_form HL273_0.out (by omega)
     (first | cases eo54 | (injection eo54 with ea_ en_ ec_; (first | subst ea_ | (injection ea_ with ea_; subst ea_)); subst ec_; clear en_))
     have GB54 := aS gb54
     have GG54 := aS HG54
     clear gb54 gl54 HG54
     (first | simp only [add_plain] at hx277_0 | skip)
     obtain ⟨hx54_0, hf54_0⟩ := Kd.R_celln 0 HL273_0.out (x7_2 : Int) p54 q54
     replace p54 := eq_true p54
     replace q54 := eq_true q54
     have hq57 : (x6_1 : Int) < (x5_2.length : Int) := (by have h_ : (x6_1 : Int) < ((x5_2.length : Int) : Int) := of_decide_eq_true (by first | (with_reducible assumption) | assumption); first | exact h_ | (have e_ := (Kd.S_reads' HO_5.out).1; omega) | simpa only [List.length_set, List.length_set] using h_)
     obtain ⟨oki57, ce57, hcl57, hM57, hcc57, hok57, hbk57⟩ := Kd.S_borrow HO_5.out [] (x6_1 : Int) (of_decide_eq_true (by first | (with_reducible assumption) | assumption)) hq57
     obtain ⟨ve57_0, rfl, ge57_0⟩ := hM57
     have hv57 := hcc57 0 _ rfl
     rw [Nat.add_zero, show ((Kd.slice 3 (Kd.int .i64))).sz = 1 from rfl, Nat.mul_one] at hv57
     replace hv57 := Option.some.inj (hv57.symm.trans HX273_0.out)
     subst hv57
     clear hcc57 hcl57
     replace ge57_0 := (show Kd.R (Kd.int .i64) 3 _ _ _ _ (rd_L6 x5_2 x6_1) from ge57_0)
     have HP57 := Kd.R_putg ge57_0 (x7_2 : Int) ji52
     rw [← Ny284.out] at HP57
     have HS57 := hbk57 HP57.2 (fun k_ e_ => by injection e_ with e_; subst e_; exact ge57_0.1 _ rfl) (x' := y284) (Kd.M_row HP57.1)
     rw [← Ny286.out] at HS57
     have HQ57 := aS HS57
     clear HP57 HS57 hbk57 hok57
     refine hK.out _ _ ⟨hHeld.1, hHeld.2.1, hHeld.2.2.1, hHeld.2.2.2.1, hHeld.2.2.2.2.1, hHeld.2.2.2.2.2.1, hHeld.2.2.2.2.2.2.1, (hup HB.out hw280_0), (hup HB.out hw280_1), (hup HB.out hw280_2), (hup HB.out hw280_3), (hup HB.out hw280_4), (hup HB.out hw281_0), (hup HB.out hw281_1), (hup HB.out hw281_2), (hup HB.out hw281_3), (hup HB.out hw281_4)⟩ (fun hHeld => ?_)
     clear hK K
     refine norm_ (a' := ?_) ?_ ?_
     rotate_left
     ·show Act.put _ (some 72) _ = _
      simp only [Act.put, sA, sZ, sS, i64_w, i32_w]
      rfl
     refine pure_ (i := 42) (N := some 73) (v := ?_) (a' := ?_) (bs 46 8796093022207) rfl rfl (any_of HT_.out (by kernel_rfl)) (fun _ _ _ h => h) (Or.inl ⟨by rfl, ?_⟩) ?_ ?_
     rotate_left
     ·intro w'
      go_simp
      with_reducible rfl
     rotate_left
     ·simp only [Act.put, sA, sZ, sS, i64_w, i32_w]
      rfl
     refine pure_ (i := 43) (N := some 74) (v := ?_) (a' := ?_) (bs 46 17592186044415) rfl rfl (any_of HT_.out (by kernel_rfl)) (fun _ _ _ h => h) (Or.inl ⟨by rfl, ?_⟩) ?_ ?_
     rotate_left
     ·intro w'
      go_simp
      with_reducible rfl
     rotate_left
     ·simp only [Act.put, sA, sZ, sS, i64_w, i32_w]
      rfl
     refine pure_ (i := 44) (N := some 75) (v := ?_) (a' := ?_) (bs 46 35184372088831) rfl rfl (any_of HT_.out (by kernel_rfl)) (fun _ _ _ h => h) (Or.inl ⟨by rfl, ?_⟩) ?_ ?_
     rotate_left
     ·intro w'
      go_simp
      with_reducible rfl
     rotate_left
     ·simp only [Act.put, sA, sZ, sS, i64_w, i32_w]
      rfl
     refine last_ (i := 45) (N := none) #[true, true, true, true, true, true, true, true, true, true, true, true, true, true, true, true, true, true, true, true, true, true, true, true, true, true, true, true, true, true, true, true, true, true, true, true, true, true, true, true, true, true, true, true, true, true] rfl rfl (one_of HT_.out (by kernel_rfl)) (by decide) (fun K hK => ?_)
     refine skip_ (w1 := ?_) (by rfl) rfl ?_ ?_
     rotate_left
     ·go_simp
      rfl
     refine hK.out _ _ ?_
     clear hK K
     refine done_ (done_of HT_.out (by kernel_rfl)) ?_
     try go_wp2
     (try simp only [← hl5_2])
     go_roundg k2
     case measure => have := HK1.out; have := HK2.out; omega
     case rel => exact ⟨(y286), (wrap64 (x7_2 - 1)), (by first | rfl | (simp; done) | (simp [*]; done)), H', ⟨by have := HK1.out; have := HK2.out; omega⟩, ⟨by (try simp only [hl5_2]); (with_reducible repeat (first | apply Kd.S_alloc | apply Kd.S_drewN | apply Kd.S_drew)); exact HQ57.out⟩, ⟨by repeat (first | (with_reducible first | exact HB.out | apply bA | apply bN | apply bD | refine below_set ?_ GB54.out) | exact HB.out)⟩⟩
end Go.Proofs.Ytjmbkbnbepmhjaa.P
