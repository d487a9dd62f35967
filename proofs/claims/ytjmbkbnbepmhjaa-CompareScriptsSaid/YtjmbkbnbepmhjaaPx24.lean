-- out of a program (drive.sh), by way of the translation's print
import Derived.Test.YtjmbkbnbepmhjaaPx0
import Derived.Test.YtjmbkbnbepmhjaaPx20
import Derived.Test.YtjmbkbnbepmhjaaPx21
import Derived.Test.YtjmbkbnbepmhjaaPx22
namespace Go.Proofs.Ytjmbkbnbepmhjaa.P
open Go.RowKit Go.Proofs.YtjmbkbnbepmhjaaW.PrintWords Go.Proofs.YtjmbkbnbepmhjaaW.PrintLast Go.Proofs.YtjmbkbnbepmhjaaW.PrintMore
attribute [local go_sem] max2_int min2_int max_two min_two max_three min_three max_four min_four   -- for this text's walks alone
set_option linter.unusedVariables false
set_option linter.unusedSimpArgs false

/-! ### salchowref25_Script: function 16 -/
mutual
def salchowref25_Script.j0 : Nat → List (S50) → List (S50) → Bool → Option ((List (S58)) × Int)
 | 0, _, _, _ => none
 | k + 1, x0, x1, x19 => if x19 = true then (some (([] : List (S58)), 6)) else ((salchowref25_Table.f k x0 x1).bind fun t294 => (salchowref25_Script.l0 k x0 x1 t294 (([] : List (S58))) 0 0))
def salchowref25_Script.l0 : Nat → List (S50) → List (S50) → List (List Int) → List (S58) → Int → Int → Option ((List (S58)) × Int)
 | 0, _, _, _, _, _, _ => none
 | k + 1, x0, x1, x6, x7, x8, x9 => if x8 < (x0.length : Int) then (salchowref25_Script.j2 k x0 x1 x6 x7 x8 x9 true) else (salchowref25_Script.j2 k x0 x1 x6 x7 x8 x9 (decide (x9 < (x1.length : Int))))
def salchowref25_Script.j2 : Nat → List (S50) → List (S50) → List (List Int) → List (S58) → Int → Int → Bool → Option ((List (S58)) × Int)
 | 0, _, _, _, _, _, _, _ => none
 | k + 1, x0, x1, x6, x7, x8, x9, x33 => if x33 = true then (if x8 < (x0.length : Int) then (salchowref25_Script.j3 k x0 x1 x6 x7 x8 x9 (decide (x9 < (x1.length : Int)))) else (salchowref25_Script.j3 k x0 x1 x6 x7 x8 x9 false)) else (some (x7, 0))
def salchowref25_Script.j3 : Nat → List (S50) → List (S50) → List (List Int) → List (S58) → Int → Int → Bool → Option ((List (S58)) × Int)
 | 0, _, _, _, _, _, _, _ => none
 | k + 1, x0, x1, x6, x7, x8, x9, x43 => if x43 = true then (if 0 ≤ x8 then (if x8 < (x0.length : Int) then (if 0 ≤ x9 then (if x9 < (x1.length : Int) then ((salchowref25_Turn.f ((rd_T50 x0 x8).f0) ((rd_T50 x0 x8).f1) ((rd_T50 x0 x8).f2) ((rd_T50 x0 x8).f3) ((rd_T50 x0 x8).f4) ((rd_T50 x1 x9).f0) ((rd_T50 x1 x9).f1) ((rd_T50 x1 x9).f2) ((rd_T50 x1 x9).f3) ((rd_T50 x1 x9).f4)).bind fun t302 => (if x8 < (x6.length : Int) then (if x9 < ((rd_L6 x6 x8).length : Int) then (if 0 ≤ (wrap64 (x8 + 1)) then (if (wrap64 (x8 + 1)) < (x6.length : Int) then (if 0 ≤ (wrap64 (x9 + 1)) then (if (wrap64 (x9 + 1)) < ((rd_L6 x6 (wrap64 (x8 + 1))).length : Int) then ((salchowref25_Cost.f k t302).bind fun t307 => (if (rd (rd_L6 x6 x8) x9) = (wrap64 ((rd (rd_L6 x6 (wrap64 (x8 + 1))) (wrap64 (x9 + 1))) + t307)) then (if t302 = 1 then (if x7.length < 3518437208883 then (salchowref25_Script.l0 k x0 x1 x6 (x7 ++ [(⟨t302, (⟨(⟨#[]⟩ : ByteArray), 0, false, false, false⟩ : S50)⟩ : S58)]) (wrap64 (x8 + 1)) (wrap64 (x9 + 1))) else (none)) else (if x7.length < 3518437208883 then (salchowref25_Script.l0 k x0 x1 x6 (x7 ++ [(⟨t302, (⟨(rd_T50 x1 x9).f0, (rd_T50 x1 x9).f1, (rd_T50 x1 x9).f2, (rd_T50 x1 x9).f3, (rd_T50 x1 x9).f4⟩ : S50)⟩ : S58)]) (wrap64 (x8 + 1)) (wrap64 (x9 + 1))) else (none))) else (if (wrap64 (x9 + 1)) < ((rd_L6 x6 x8).length : Int) then (if (rd (rd_L6 x6 x8) x9) = (wrap64 ((rd (rd_L6 x6 x8) (wrap64 (x9 + 1))) + 2)) then (if x7.length < 3518437208883 then (salchowref25_Script.l0 k x0 x1 x6 (x7 ++ [(⟨4, (⟨(rd_T50 x1 x9).f0, (rd_T50 x1 x9).f1, (rd_T50 x1 x9).f2, (rd_T50 x1 x9).f3, (rd_T50 x1 x9).f4⟩ : S50)⟩ : S58)]) x8 (wrap64 (x9 + 1))) else (none)) else (if x7.length < 3518437208883 then (salchowref25_Script.l0 k x0 x1 x6 (x7 ++ [(⟨5, (⟨(⟨#[]⟩ : ByteArray), 0, false, false, false⟩ : S50)⟩ : S58)]) (wrap64 (x8 + 1)) x9) else (none))) else (none)))) else (none)) else (none)) else (none)) else (none)) else (none)) else (none))) else (none)) else (none)) else (none)) else (none)) else (if x9 < (x1.length : Int) then (if 0 ≤ x8 then (if x8 < (x6.length : Int) then (if 0 ≤ x9 then (if x9 < ((rd_L6 x6 x8).length : Int) then (if 0 ≤ (wrap64 (x9 + 1)) then (if (wrap64 (x9 + 1)) < ((rd_L6 x6 x8).length : Int) then (if (rd (rd_L6 x6 x8) x9) = (wrap64 ((rd (rd_L6 x6 x8) (wrap64 (x9 + 1))) + 2)) then (if x7.length < 3518437208883 then (salchowref25_Script.l0 k x0 x1 x6 (x7 ++ [(⟨4, (⟨(rd_T50 x1 x9).f0, (rd_T50 x1 x9).f1, (rd_T50 x1 x9).f2, (rd_T50 x1 x9).f3, (rd_T50 x1 x9).f4⟩ : S50)⟩ : S58)]) x8 (wrap64 (x9 + 1))) else (none)) else (if x7.length < 3518437208883 then (salchowref25_Script.l0 k x0 x1 x6 (x7 ++ [(⟨5, (⟨(⟨#[]⟩ : ByteArray), 0, false, false, false⟩ : S50)⟩ : S58)]) (wrap64 (x8 + 1)) x9) else (none))) else (none)) else (none)) else (none)) else (none)) else (none)) else (none)) else (if x7.length < 3518437208883 then (salchowref25_Script.l0 k x0 x1 x6 (x7 ++ [(⟨5, (⟨(⟨#[]⟩ : ByteArray), 0, false, false, false⟩ : S50)⟩ : S58)]) (wrap64 (x8 + 1)) x9) else (none)))
end
def salchowref25_Script.f (k : Nat) (l0 : List (S50)) (l1 : List (S50)) : Option ((List (S58)) × Int) := if (l0.length : Int) > 30 then (salchowref25_Script.j0 k l0 l1 true) else (salchowref25_Script.j0 k l0 l1 (decide ((l1.length : Int) > 30)))
theorem salchowref25_Script.mono_l : ∀ k, (∀ y0 y1 y2, LeO (salchowref25_Script.j0 k y0 y1 y2) (salchowref25_Script.j0 (k + 1) y0 y1 y2)) ∧ (∀ y0 y1 y2 y3 y4 y5, LeO (salchowref25_Script.l0 k y0 y1 y2 y3 y4 y5) (salchowref25_Script.l0 (k + 1) y0 y1 y2 y3 y4 y5)) ∧ (∀ y0 y1 y2 y3 y4 y5 y6, LeO (salchowref25_Script.j2 k y0 y1 y2 y3 y4 y5 y6) (salchowref25_Script.j2 (k + 1) y0 y1 y2 y3 y4 y5 y6)) ∧ (∀ y0 y1 y2 y3 y4 y5 y6, LeO (salchowref25_Script.j3 k y0 y1 y2 y3 y4 y5 y6) (salchowref25_Script.j3 (k + 1) y0 y1 y2 y3 y4 y5 y6))
 | 0 => ⟨fun _ _ _ r h => by simp [salchowref25_Script.j0] at h, fun _ _ _ _ _ _ r h => by simp [salchowref25_Script.l0] at h, fun _ _ _ _ _ _ _ r h => by simp [salchowref25_Script.j2] at h, fun _ _ _ _ _ _ _ r h => by simp [salchowref25_Script.j3] at h⟩
 | k + 1 => by
  obtain ⟨ih0, ih1, ih2, ih3⟩ := salchowref25_Script.mono_l k
  refine ⟨?_, ?_, ?_, ?_⟩
  ·intro y0 y1 y2
   unfold salchowref25_Script.j0
   repeat' first
   | (with_reducible exact ih0 _ _ _)
   | (with_reducible exact ih1 _ _ _ _ _ _)
   | (with_reducible exact ih2 _ _ _ _ _ _ _)
   | (with_reducible exact ih3 _ _ _ _ _ _ _)
   | (with_reducible exact salchowref25_Cost.mono _ _)
   | (with_reducible exact salchowref25_Table.mono _ _ _)
   | (with_reducible exact LeO.refl _)
   | (with_reducible exact LeO.none _)
   | (with_reducible refine LeO.ite ?_ ?_)
   | (with_reducible refine LeO.bind ?_ (fun _ => ?_))
   | exact ih0 _ _ _
   | exact ih1 _ _ _ _ _ _
   | exact ih2 _ _ _ _ _ _ _
   | exact ih3 _ _ _ _ _ _ _
   | exact salchowref25_Cost.mono _ _
   | exact salchowref25_Table.mono _ _ _
   | exact LeO.none _
   | refine LeO.ite ?_ ?_
   | refine LeO.bind ?_ (fun _ => ?_)
  ·intro y0 y1 y2 y3 y4 y5
   unfold salchowref25_Script.l0
   repeat' first
   | (with_reducible exact ih0 _ _ _)
   | (with_reducible exact ih1 _ _ _ _ _ _)
   | (with_reducible exact ih2 _ _ _ _ _ _ _)
   | (with_reducible exact ih3 _ _ _ _ _ _ _)
   | (with_reducible exact salchowref25_Cost.mono _ _)
   | (with_reducible exact salchowref25_Table.mono _ _ _)
   | (with_reducible exact LeO.refl _)
   | (with_reducible exact LeO.none _)
   | (with_reducible refine LeO.ite ?_ ?_)
   | (with_reducible refine LeO.bind ?_ (fun _ => ?_))
   | exact ih0 _ _ _
   | exact ih1 _ _ _ _ _ _
   | exact ih2 _ _ _ _ _ _ _
   | exact ih3 _ _ _ _ _ _ _
   | exact salchowref25_Cost.mono _ _
   | exact salchowref25_Table.mono _ _ _
   | exact LeO.none _
   | refine LeO.ite ?_ ?_
   | refine LeO.bind ?_ (fun _ => ?_)
  ·intro y0 y1 y2 y3 y4 y5 y6
   unfold salchowref25_Script.j2
   repeat' first
   | (with_reducible exact ih0 _ _ _)
   | (with_reducible exact ih1 _ _ _ _ _ _)
   | (with_reducible exact ih2 _ _ _ _ _ _ _)
   | (with_reducible exact ih3 _ _ _ _ _ _ _)
   | (with_reducible exact salchowref25_Cost.mono _ _)
   | (with_reducible exact salchowref25_Table.mono _ _ _)
   | (with_reducible exact LeO.refl _)
   | (with_reducible exact LeO.none _)
   | (with_reducible refine LeO.ite ?_ ?_)
   | (with_reducible refine LeO.bind ?_ (fun _ => ?_))
   | exact ih0 _ _ _
   | exact ih1 _ _ _ _ _ _
   | exact ih2 _ _ _ _ _ _ _
   | exact ih3 _ _ _ _ _ _ _
   | exact salchowref25_Cost.mono _ _
   | exact salchowref25_Table.mono _ _ _
   | exact LeO.none _
   | refine LeO.ite ?_ ?_
   | refine LeO.bind ?_ (fun _ => ?_)
  ·intro y0 y1 y2 y3 y4 y5 y6
   unfold salchowref25_Script.j3
   repeat' first
   | (with_reducible exact ih0 _ _ _)
   | (with_reducible exact ih1 _ _ _ _ _ _)
   | (with_reducible exact ih2 _ _ _ _ _ _ _)
   | (with_reducible exact ih3 _ _ _ _ _ _ _)
   | (with_reducible exact salchowref25_Cost.mono _ _)
   | (with_reducible exact salchowref25_Table.mono _ _ _)
   | (with_reducible exact LeO.refl _)
   | (with_reducible exact LeO.none _)
   | (with_reducible refine LeO.ite ?_ ?_)
   | (with_reducible refine LeO.bind ?_ (fun _ => ?_))
   | exact ih0 _ _ _
   | exact ih1 _ _ _ _ _ _
   | exact ih2 _ _ _ _ _ _ _
   | exact ih3 _ _ _ _ _ _ _
   | exact salchowref25_Cost.mono _ _
   | exact salchowref25_Table.mono _ _ _
   | exact LeO.none _
   | refine LeO.ite ?_ ?_
   | refine LeO.bind ?_ (fun _ => ?_)
theorem salchowref25_Script.mono : ∀ a0 a1 k, LeO (salchowref25_Script.f k a0 a1) (salchowref25_Script.f (k + 1) a0 a1) := by
 intro a0 a1 k
 obtain ⟨ih0, ih1, ih2, ih3⟩ := salchowref25_Script.mono_l k
 unfold salchowref25_Script.f
 repeat' first
   | (with_reducible exact ih0 _ _ _)
   | (with_reducible exact ih1 _ _ _ _ _ _)
   | (with_reducible exact ih2 _ _ _ _ _ _ _)
   | (with_reducible exact ih3 _ _ _ _ _ _ _)
   | (with_reducible exact salchowref25_Cost.mono _ _)
   | (with_reducible exact salchowref25_Table.mono _ _ _)
   | (with_reducible exact LeO.refl _)
   | (with_reducible exact LeO.none _)
   | (with_reducible refine LeO.ite ?_ ?_)
   | (with_reducible refine LeO.bind ?_ (fun _ => ?_))
   | exact ih0 _ _ _
   | exact ih1 _ _ _ _ _ _
   | exact ih2 _ _ _ _ _ _ _
   | exact ih3 _ _ _ _ _ _ _
   | exact salchowref25_Cost.mono _ _
   | exact salchowref25_Table.mono _ _ _
   | exact LeO.none _
   | refine LeO.ite ?_ ?_
   | refine LeO.bind ?_ (fun _ => ?_)
def salchowref25_Script.T8 : Bool × List (List Nat × List Nat) := (true, [([], []), ([], []), ([0, 1], [0, 1]), ([2], [2]), ([], []), ([], []), ([4, 5], [4, 5]), ([6], [6]), ([3, 7], [3, 7]), ([8, 8, 0, 1, 2, 3, 4, 5, 6, 7, 8], [8])])
def salchowref25_Script.B8 : List Nat := [0, 0, 3, 7, 0, 0, 48, 112, 255, 511]
theorem salchowref25_Script.tab8 : rtab .any (opsOf Try.f16 8) = salchowref25_Script.T8 := by kernel_rfl
theorem salchowref25_Script.bits8 : waitsOk salchowref25_Script.T8.2 salchowref25_Script.B8 = true := by kernel_rfl
def salchowref25_Script.T9 : Bool × List (List Nat × List Nat) := (true, [([], []), ([], []), ([0, 1], [0, 1]), ([2], [2]), ([], []), ([3, 4], [3, 4]), ([5], [5]), ([], []), ([], []), ([8], [8]), ([7, 9], [7, 9]), ([10], [10]), ([], []), ([12], [12]), ([11, 13], [11, 13]), ([14], [14]), ([], []), ([16], [16]), ([15, 17], [15, 17]), ([6, 18], [6, 18])])
def salchowref25_Script.B9 : List Nat := [0, 0, 3, 7, 0, 31, 63, 0, 0, 256, 896, 1920, 0, 4096, 16256, 32640, 0, 65536, 262016, 524287]
theorem salchowref25_Script.tab9 : rtab .any (opsOf Try.f16 9) = salchowref25_Script.T9 := by kernel_rfl
theorem salchowref25_Script.bits9 : waitsOk salchowref25_Script.T9.2 salchowref25_Script.B9 = true := by kernel_rfl
def salchowref25_Script.T15 : Bool × List (List Nat × List Nat) := (true, [([], []), ([], []), ([1], [1]), ([0, 2], [0, 2]), ([3], [3]), ([4], [4]), ([4], [4]), ([5, 6, 4], [4, 5, 6]), ([7, 4], [4, 7]), ([4], [4]), ([8, 9, 4], [4, 8, 9]), ([10, 4], [4, 10]), ([4], [4]), ([4], [4]), ([12, 13, 4], [4, 12, 13]), ([14, 4], [4, 14]), ([4], [4]), ([16, 4], [4, 16]), ([15, 17, 4], [4, 15, 17]), ([18, 4], [4, 18]), ([19, 4], [4, 19]), ([11, 20, 4], [4, 11, 20]), ([4, 21], [4, 21])])
def salchowref25_Script.B15 : List Nat := [0, 0, 2, 7, 15, 31, 31, 127, 255, 31, 1023, 2047, 31, 31, 12319, 28703, 31, 65567, 258079, 520223, 1044511, 2097151, 4194303]
theorem salchowref25_Script.tab15 : rtab .any (opsOf Try.f16 15) = salchowref25_Script.T15 := by kernel_rfl
theorem salchowref25_Script.bits15 : waitsOk salchowref25_Script.T15.2 salchowref25_Script.B15 = true := by kernel_rfl
set_option maxHeartbeats 8000000 in
set_option maxRecDepth 100000 in
theorem salchowref25_Script.calls (k : Nat) (A0 : Option Addr) (c0 : Nat) (l0 : List (S50)) (A1 : Option Addr) (c1 : Nat) (l1 : List (S50)) (r1 : List (S58)) (r2 : Int) (w : World) (hr0 : Kd.C k50 w A0 l0.length l0) (hc0 : l0.length ≤ c0) (hr1 : Kd.C k50 w A1 l1.length l1) (hc1 : l1.length ≤ c1) (h : salchowref25_Script.f k l0 l1 = some (r1, r2)) :
  Calls Try.prog 16 #[.slice A0 l0.length c0, .slice A1 l1.length c1] w fun e w' => ∃ v0_ : Value, e = .returned (.tuple #[v0_, .int .i64 r2]) ∧ Kd.R k58 58 w' w.heap.size (fun _ => True) v0_ r1 ∧ Below w.heap.size w w' := by
 have hu50 := Try.underlying50
 have hu58 := Try.underlying58
 have HR0 := aS hr0
 have HC0 := aS hc0
 clear hr0 hc0
 have HR1 := aS hr1
 have HC1 := aS hc1
 clear hr1 hc1
 have HB := aS (Below.refl w.heap.size w)
 have H : (if (l0.length : Int) > 30 then (salchowref25_Script.j0 k l0 l1 true) else (salchowref25_Script.j0 k l0 l1 (decide ((l1.length : Int) > 30)))) = some (r1, r2) := h
 clear h
 have HC3 := aS H
 clear H
 go_enter Try.func16, Try.ntmps16
 go_upto_region 1 with (fail)
 go_cut [19] (fun v19 wc => ∃ (kq : Nat) (x19_2 : Bool), v19 = .bool x19_2 ∧ Aside0 (salchowref25_Script.j0 kq l0 l1 x19_2 = some (r1, r2)) ∧ Aside0 (kq ≤ k) ∧ Aside0 (Below w.heap.size w wc))
 case first =>
  have H := HC3.out
  clear HC3
  by_cases c4 : (l0.length : Int) > 30
  rotate_left
  ·rw [if_neg c4] at H
   have c4b0 : decide (30 < (l0.length : Int)) = false := decide_eq_false c4
   have c4b1 : decide (30 < l0.length) = false := decide_eq_false (by omega)
   clear c4
   (first | rw [c4b0] | (simp only [i64_w, i32_w]; rw [c4b0]) | skip)
   have H' := aS H
   clear H
   go_wp2
   go_meet
   case rel => exact ⟨_, (decide ((l1.length : Int) > 30)), (by first | rfl | (simp; done) | (simp [*]; done)), H', ⟨by first | omega | exact Nat.le_refl _⟩, ⟨by first | exact bel HB.out | exact HB.out⟩⟩
  rw [if_pos c4] at H
  have c4b0 : decide (30 < (l0.length : Int)) = true := decide_eq_true c4
  have c4b1 : decide (30 < l0.length) = true := decide_eq_true (by omega)
  clear c4
  (first | rw [c4b0] | (simp only [i64_w, i32_w]; rw [c4b0]) | skip)
  have H' := aS H
  clear H
  go_wp2
  go_meet
  case rel => exact ⟨_, (true), (by first | rfl | (simp; done) | (simp [*]; done)), H', ⟨by first | omega | exact Nat.le_refl _⟩, ⟨by first | exact bel HB.out | exact HB.out⟩⟩
 clear HC3
 try clear c1
 try clear p2
 try clear c4
 try clear c4b0
 try clear c4b1
 obtain ⟨kq, x19_2, rfl, HA, HJ2, HB⟩ := hcut
 cases kq with
 | zero => exact absurd HA.out (by simp [salchowref25_Script.j0])
 | succ kj2 =>
  have H := HA.out
  clear HA
  simp only [salchowref25_Script.j0] at H
  by_cases c5 : x19_2 = true
  ·subst c5
   have H1 : (some (([] : List (S58)), 6)) = some (r1, r2) := by rw [if_pos rfl] at H; exact H
   clear H
   have H := H1
   clear H1
   simp only [Option.some.injEq, Prod.mk.injEq] at H
   obtain ⟨rfl, rfl⟩ := H
   go_wp2
   go_ret2
   exact ⟨_, by first | rfl | (simp [errW_none, errW_some] <;> rfl) | (simp [*, errW_none, errW_some] <;> rfl), by first | exact Kd.R_nil _ _ _ _ _ | exact Kd.N_nil _ _ _ _ _ | exact Kd.V_nil _ _ _ _ _ | exact Kd.Q_nil _ _ _ _ _ | exact Kd.S_nil _ _ _ _ _, by first | exact bel HB.out | exact HB.out⟩
  replace c5 := Bool.eq_false_iff.mpr c5
  subst c5
  have H1 : ((salchowref25_Table.f kj2 l0 l1).bind fun t294 => (salchowref25_Script.l0 kj2 l0 l1 t294 (([] : List (S58))) 0 0)) = some (r1, r2) := by rw [if_neg (show ¬ (false = true) by decide)] at H; exact H
  clear H
  have H := H1
  clear H1
  replace H := Option.bind_eq_some_iff.mp H
  obtain ⟨t294, A60, H⟩ := H
  replace H : (salchowref25_Script.l0 kj2 l0 l1 t294 (([] : List (S58))) 0 0) = some (r1, r2) := H
  have A6 := aS A60
  clear A60
  obtain ⟨y297, hy297⟩ : ∃ y_ : List (S58), y_ = (([] : List (S58))) := ⟨_, rfl⟩
  replace H : (salchowref25_Script.l0 kj2 l0 l1 t294 y297 0 0) = some (r1, r2) := by first | (rw [hy297]; with_reducible exact H) | (have H2_ := (Option.bind_some _ _).symm.trans H; rw [hy297]; with_reducible exact H2_) | (have H2_ := (Option.bind_some _ _).symm.trans H; with_reducible exact H2_) | with_reducible exact H | (rw [hy297]; exact H) | exact H
  have Ny297 := aS hy297
  clear hy297
  have H' := aS H
  clear H
  go_wp2_with (first | ((with_reducible refine gate_callee (f := 34) rfl ?_); refine goesL_ (some 22) rfl rfl Try.func34 (by kernel_rfl) rfl #[.slice A0 l0.length c0, .slice A1 l1.length c1] rfl (by (try simp only [List.map_toArray, List.map_cons, List.map_nil]); first | done | rfl | (simp only [List.length_drop, List.length_take]; rfl)) ?_; (with_reducible refine (salchowref25_Table.calls kj2 _ _ l0 _ _ l1 t294 _ ?side1 ?side2 ?side3 ?side4 A6.out).mono ?_); (case side1 => repeat (first | exact (Kd.C_below HR0.out HB.out) | (with_reducible apply Kd.C_alloc) | (with_reducible apply Kd.C_drewN) | (with_reducible apply Kd.C_drew))); (case side2 => exact HC0.out); (case side3 => repeat (first | exact (Kd.C_below HR1.out HB.out) | (with_reducible apply Kd.C_alloc) | (with_reducible apply Kd.C_drewN) | (with_reducible apply Kd.C_drew))); (case side4 => exact HC1.out); rintro e w7 ⟨v295, rfl, ho0, hb⟩; refine ⟨_, rfl, ?_⟩; have n0_ := aS (Kd.S_lower ho0 (below_size (by first | exact bel HB.out | exact HB.out))); have n1_ := aS (below_step (by first | exact bel HB.out | exact HB.out) hb); clear HB; have HO296 := n0_; have HB := n1_; clear n0_ n1_; (try clear hb); (try clear hb2); (try clear hk); (try clear hi); (try clear ho0)) | ((with_reducible refine gate_dst (N := 23) rfl ?_); (try (refine gate_guard (by rfl) ?_; dsimp only)); refine Kd.R_lit k58 _ 58 ?hg (N := 23) ?hd (xs := ([] : List (S58))) (inner := []) (ok := fun _ => True) (okp := fun _ => True) ?hr ?hp (fun _ hk => hk) trivial (Below.refl _ _) (Nat.le_refl _) (by simp) ?_; (case hd => rfl); (case hg => rfl); (case hr => first | (go_simp; done) | (go_simp; rfl)); (case hp => exact (Reps.none _ _)); intro v298 w8 ho9 hb hg_ hnew_; clear hg_ hnew_; (first | rw [← Ny297.out] at ho9 | (simp only [Int.reduceToNat] at ho9; rw [← Ny297.out] at ho9)); have n0_ := aS (Kd.S_below (by (with_reducible repeat (first | apply Kd.S_alloc | apply Kd.S_drewN | apply Kd.S_drew)); exact HO296.out) hb); have n1_ := aS (Kd.R_lower ho9 (below_size (by first | exact bel HB.out | exact HB.out))); have n2_ := aS (below_step (by first | exact bel HB.out | exact HB.out) hb); clear HO296; clear HB; have HO296 := n0_; have HO299 := n1_; have HB := n2_; clear n0_ n1_ n2_; clear hb ho9))
  go_loopg [7, 8, 9] kj2 (fun kq v7 v8 v9 w' => ∃ (x7_2 : List (S58)) (x8_2 : Int) (x9_2 : Int), v8 = .int .i64 x8_2 ∧ v9 = .int .i64 x9_2 ∧ Aside0 (salchowref25_Script.l0 kq l0 l1 t294 x7_2 x8_2 x9_2 = some (r1, r2)) ∧ Aside0 (kq ≤ kj2) ∧ Aside0 (Kd.S (Kd.slice 3 (Kd.int .i64)) 45 w' w.heap.size (fun _ => True) v295 t294) ∧ Aside0 (Kd.R k58 58 w' w.heap.size (fun _ => True) v7 x7_2) ∧ Aside0 (Below w.heap.size w w'))
  case atStart => exact ⟨(y297), (0), (0), (by first | rfl | (simp; done) | (simp [*]; done)), (by first | rfl | (simp; done) | (simp [*]; done)), H', ⟨Nat.le_refl _⟩, ⟨by (with_reducible repeat (first | apply Kd.S_alloc | apply Kd.S_drewN | apply Kd.S_drew)); exact HO296.out⟩, ⟨by exact rel <| HO299.out⟩, ⟨by first | exact bel HB.out | exact HB.out⟩⟩
  case round =>
   clear H'
   try clear c1
   try clear p2
   try clear c3
   try clear c4
   try clear c4b0
   try clear c4b1
   try clear c5
   try clear p2
   obtain ⟨x7_2, x8_2, x9_2, rfl, rfl, HA, HK2, HO_6, HO_7, HB⟩ := hrel
   cases gk with
   | zero => exact absurd HA.out (by simp [salchowref25_Script.l0])
   | succ k2 =>
    have H := HA.out
    clear HA
    simp only [salchowref25_Script.l0] at H
    have HC10 := aS H
    clear H
    go_upto_region 6 with (fail)
    go_cut [33] (fun v33 wc => ∃ (kq : Nat) (x33_9 : Bool), v33 = .bool x33_9 ∧ Aside0 (salchowref25_Script.j2 kq l0 l1 t294 x7_2 x8_2 x9_2 x33_9 = some (r1, r2)) ∧ Aside0 (kq ≤ k2) ∧ Aside0 (Kd.S (Kd.slice 3 (Kd.int .i64)) 45 wc w.heap.size (fun _ => True) v295 t294) ∧ Aside0 (Kd.R k58 58 wc w.heap.size (fun _ => True) u7 x7_2) ∧ Aside0 (Below w.heap.size w wc))
    case first =>
     have H := HC10.out
     clear HC10
     by_cases c11 : x8_2 < (l0.length : Int)
     rotate_left
     ·rw [if_neg c11] at H
      have c11b0 : decide (x8_2 < (l0.length : Int)) = false := decide_eq_false c11
      clear c11
      (first | rw [c11b0] | (simp only [i64_w, i32_w]; rw [c11b0]) | skip)
      have H' := aS H
      clear H
      go_wp2
      go_meet
      case rel => exact ⟨_, (decide (x9_2 < (l1.length : Int))), (by first | rfl | (simp; done) | (simp [*]; done)), H', ⟨by have := HJ2.out; have := HK2.out; first | omega | exact Nat.le_refl _⟩, ⟨by (with_reducible repeat (first | apply Kd.S_alloc | apply Kd.S_drewN | apply Kd.S_drew)); exact HO_6.out⟩, ⟨by exact rel <| HO_7.out⟩, ⟨by first | exact bel HB.out | exact HB.out⟩⟩
     rw [if_pos c11] at H
     have c11b0 : decide (x8_2 < (l0.length : Int)) = true := decide_eq_true c11
     clear c11
     (first | rw [c11b0] | (simp only [i64_w, i32_w]; rw [c11b0]) | skip)
     have H' := aS H
     clear H
     go_wp2
     go_meet
     case rel => exact ⟨_, (true), (by first | rfl | (simp; done) | (simp [*]; done)), H', ⟨by have := HJ2.out; have := HK2.out; first | omega | exact Nat.le_refl _⟩, ⟨by (with_reducible repeat (first | apply Kd.S_alloc | apply Kd.S_drewN | apply Kd.S_drew)); exact HO_6.out⟩, ⟨by exact rel <| HO_7.out⟩, ⟨by first | exact bel HB.out | exact HB.out⟩⟩
    clear HC10
    try clear c1
    try clear p2
    try clear c3
    try clear c4
    try clear c4b0
    try clear c4b1
    try clear c5
    try clear c11
    try clear c11b0
    try clear p2
    obtain ⟨kq, x33_9, rfl, HA, HJ9, HO_6, HO_7, HB⟩ := hcut
    cases kq with
    | zero => exact absurd HA.out (by simp [salchowref25_Script.j2])
    | succ kj9 =>
     have H := HA.out
     clear HA
     simp only [salchowref25_Script.j2] at H
     by_cases c12 : x33_9 = true
     rotate_left
     ·replace c12 := Bool.eq_false_iff.mpr c12
      subst c12
      have H1 : (some (x7_2, 0)) = some (r1, r2) := by rw [if_neg (show ¬ (false = true) by decide)] at H; exact H
      clear H
      have H := H1
      clear H1
      simp only [Option.some.injEq, Prod.mk.injEq] at H
      obtain ⟨rfl, rfl⟩ := H
      go_wp2
      go_ret2
      exact ⟨_, by first | rfl | (simp [errW_none, errW_some] <;> rfl) | (simp [*, errW_none, errW_some] <;> rfl), by exact rel <| HO_7.out, by first | exact bel HB.out | exact HB.out⟩

     subst c12
     have H1 : (if x8_2 < (l0.length : Int) then (salchowref25_Script.j3 kj9 l0 l1 t294 x7_2 x8_2 x9_2 (decide (x9_2 < (l1.length : Int)))) else (salchowref25_Script.j3 kj9 l0 l1 t294 x7_2 x8_2 x9_2 false)) = some (r1, r2) := by rw [if_pos rfl] at H; exact H
     clear H
     have H := H1
     clear H1
     have HC13 := aS H
     clear H
     go_upto_region 7 with (fail)
     go_cut [43] (fun v43 wc => ∃ (kq : Nat) (x43_12 : Bool), v43 = .bool x43_12 ∧ Aside0 (salchowref25_Script.j3 kq l0 l1 t294 x7_2 x8_2 x9_2 x43_12 = some (r1, r2)) ∧ Aside0 (kq ≤ kj9) ∧ Aside0 (Kd.S (Kd.slice 3 (Kd.int .i64)) 45 wc w.heap.size (fun _ => True) v295 t294) ∧ Aside0 (Kd.R k58 58 wc w.heap.size (fun _ => True) u7 x7_2) ∧ Aside0 (Below w.heap.size w wc))
     case first =>
      have H := HC13.out
      clear HC13
      by_cases c14 : x8_2 < (l0.length : Int)
      rotate_left
      ·rw [if_neg c14] at H
       have c14b0 : decide (x8_2 < (l0.length : Int)) = false := decide_eq_false c14
       clear c14
       (first | rw [c14b0] | (simp only [i64_w, i32_w]; rw [c14b0]) | skip)
       have H' := aS H
       clear H
       go_wp2
       go_meet
       case rel => exact ⟨_, (false), (by first | rfl | (simp; done) | (simp [*]; done)), H', ⟨by have := HJ2.out; have := HK2.out; have := HJ9.out; first | omega | exact Nat.le_refl _⟩, ⟨by (with_reducible repeat (first | apply Kd.S_alloc | apply Kd.S_drewN | apply Kd.S_drew)); exact HO_6.out⟩, ⟨by exact rel <| HO_7.out⟩, ⟨by first | exact bel HB.out | exact HB.out⟩⟩
      rw [if_pos c14] at H
      have c14b0 : decide (x8_2 < (l0.length : Int)) = true := decide_eq_true c14
      clear c14
      (first | rw [c14b0] | (simp only [i64_w, i32_w]; rw [c14b0]) | skip)
      have H' := aS H
      clear H
      go_wp2
      go_meet
      case rel => exact ⟨_, (decide (x9_2 < (l1.length : Int))), (by first | rfl | (simp; done) | (simp [*]; done)), H', ⟨by have := HJ2.out; have := HK2.out; have := HJ9.out; first | omega | exact Nat.le_refl _⟩, ⟨by (with_reducible repeat (first | apply Kd.S_alloc | apply Kd.S_drewN | apply Kd.S_drew)); exact HO_6.out⟩, ⟨by exact rel <| HO_7.out⟩, ⟨by first | exact bel HB.out | exact HB.out⟩⟩
     clear HC13
     try clear c1
     try clear p2
     try clear c3
     try clear c4
     try clear c4b0
     try clear c4b1
     try clear c5
     try clear c11
     try clear c11b0
     try clear c12
     try clear c14
     try clear c14b0
     try clear p2
     obtain ⟨kq, x43_12, rfl, HA, HJ12, HO_6, HO_7, HB⟩ := hcut
     cases kq with
     | zero => exact absurd HA.out (by simp [salchowref25_Script.j3])
     | succ kj12 =>
      have H := HA.out
      clear HA
      simp only [salchowref25_Script.j3] at H
      by_cases c15 : x43_12 = true
      rotate_left
      ·replace c15 := Bool.eq_false_iff.mpr c15
       subst c15
       have H1 : (if x9_2 < (l1.length : Int) then (if 0 ≤ x8_2 then (if x8_2 < (t294.length : Int) then (if 0 ≤ x9_2 then (if x9_2 < ((rd_L6 t294 x8_2).length : Int) then (if 0 ≤ (wrap64 (x9_2 + 1)) then (if (wrap64 (x9_2 + 1)) < ((rd_L6 t294 x8_2).length : Int) then (if (rd (rd_L6 t294 x8_2) x9_2) = (wrap64 ((rd (rd_L6 t294 x8_2) (wrap64 (x9_2 + 1))) + 2)) then (if x7_2.length < 3518437208883 then (salchowref25_Script.l0 kj12 l0 l1 t294 (x7_2 ++ [(⟨4, (⟨(rd_T50 l1 x9_2).f0, (rd_T50 l1 x9_2).f1, (rd_T50 l1 x9_2).f2, (rd_T50 l1 x9_2).f3, (rd_T50 l1 x9_2).f4⟩ : S50)⟩ : S58)]) x8_2 (wrap64 (x9_2 + 1))) else (none)) else (if x7_2.length < 3518437208883 then (salchowref25_Script.l0 kj12 l0 l1 t294 (x7_2 ++ [(⟨5, (⟨(⟨#[]⟩ : ByteArray), 0, false, false, false⟩ : S50)⟩ : S58)]) (wrap64 (x8_2 + 1)) x9_2) else (none))) else (none)) else (none)) else (none)) else (none)) else (none)) else (none)) else (if x7_2.length < 3518437208883 then (salchowref25_Script.l0 kj12 l0 l1 t294 (x7_2 ++ [(⟨5, (⟨(⟨#[]⟩ : ByteArray), 0, false, false, false⟩ : S50)⟩ : S58)]) (wrap64 (x8_2 + 1)) x9_2) else (none))) = some (r1, r2) := by rw [if_neg (show ¬ (false = true) by decide)] at H; exact H
       clear H
       have H := H1
       clear H1
       by_cases c64 : x9_2 < (l1.length : Int)
       rotate_left
       ·rw [if_neg c64] at H
        have c64b0 : decide (x9_2 < (l1.length : Int)) = false := decide_eq_false c64
        clear c64
        by_cases c81 : x7_2.length < 3518437208883
        rotate_left
        ·rw [if_neg c81] at H
         exact absurd H (by simp)
        rw [if_pos c81] at H
        have LMc81 := aS c81
        clear c81
        obtain ⟨y338, hy338⟩ : ∃ y_ : List (S58), y_ = (x7_2 ++ [(⟨5, (⟨(⟨#[]⟩ : ByteArray), 0, false, false, false⟩ : S50)⟩ : S58)]) := ⟨_, rfl⟩
        replace H : (salchowref25_Script.l0 kj12 l0 l1 t294 y338 (wrap64 (x8_2 + 1)) x9_2) = some (r1, r2) := by first | (rw [hy338]; with_reducible exact H) | (have H2_ := (Option.bind_some _ _).symm.trans H; rw [hy338]; with_reducible exact H2_) | (have H2_ := (Option.bind_some _ _).symm.trans H; with_reducible exact H2_) | with_reducible exact H | (rw [hy338]; exact H) | exact H
        have Ny338 := aS hy338
        clear hy338
        have H' := aS H
        clear H
        try go_wp2
        have n0_ := aS (Kd.S_drew HO_6.out)
        have n1_ := aS (Kd.R_drew HO_7.out)
        have n2_ := aS (below_drew1 HB.out)
        clear HO_6
        clear HO_7
        clear HB
        have HO_6 := n0_
        have HO_7 := n1_
        have HB := n2_
        clear n0_ n1_ n2_
        refine start_ (n := 23) (S := fun w' => True) (ds := []) #[false, false, false, false, false, false, false, false, false, false, false, false, false, false, false, false, false, false, false, false, false, false, false] (by kernel_rfl) rfl rfl trivial (fun hHeld => ?_); refine with_tabW salchowref25_Script.tab15 salchowref25_Script.bits15 (fun HT_ HW_ => ?_)
        generalize wc.drew = w82 at HO_6 HO_7 HB hHeld ⊢
        refine pure_ (i := 0) (N := some 90) (v := ?_) (a' := ?_) (bs 23 1) rfl rfl (any_of HT_.out (by kernel_rfl)) (fun _ _ _ h => h) (Or.inl ⟨by rfl, ?_⟩) ?_ ?_
        rotate_left
        ·intro w'
         go_simp
         with_reducible rfl
        rotate_left
        ·simp only [Act.put, sA, sZ, sS, i64_w, i32_w]
         rfl
        refine pure_ (i := 1) (N := some 91) (v := ?_) (a' := ?_) (bs 23 3) rfl rfl (any_of HT_.out (by kernel_rfl)) (fun _ _ _ h => h) (Or.inl ⟨by rfl, ?_⟩) ?_ ?_
        rotate_left
        ·intro w'
         go_simp
         with_reducible rfl
        rotate_left
        ·simp only [Act.put, sA, sZ, sS, i64_w, i32_w]
         rfl
        refine pure_ (i := 2) (N := some 92) (v := ?_) (a' := ?_) (bs 23 7) rfl rfl (any_of HT_.out (by kernel_rfl)) (fun _ _ _ h => h) (Or.inl ⟨by rfl, ?_⟩) ?_ ?_
        rotate_left
        ·intro w'
         go_simp
         with_reducible rfl
        rotate_left
        ·simp only [Act.put, sA, sZ, sS, i64_w, i32_w]
         rfl
        refine pure_ (i := 3) (N := some 93) (v := ?_) (a' := ?_) (bs 23 15) rfl rfl (any_of HT_.out (by kernel_rfl)) (fun _ _ _ h => h) (Or.inl ⟨by rfl, ?_⟩) ?_ ?_
        rotate_left
        ·intro w'
         go_simp
         with_reducible rfl
        rotate_left
        ·simp only [Act.put, sA, sZ, sS, i64_w, i32_w]
         rfl
        refine pure_ (i := 4) (N := some 94) (v := ?_) (a' := ?_) (bs 23 31) rfl rfl (any_of HT_.out (by kernel_rfl)) (fun _ _ _ h => h) (Or.inl ⟨by rfl, ?_⟩) ?_ ?_
        rotate_left
        ·intro w'
         go_simp
         with_reducible rfl
        rotate_left
        ·simp only [Act.put, sA, sZ, sS, i64_w, i32_w]
         rfl
        refine pure_ (i := 5) (N := some 95) (v := undef) (a' := ?_) (bs 23 63) rfl rfl (any_of HT_.out (by kernel_rfl)) (fun _ _ _ h => h) (Or.inr ⟨by rfl, rfl⟩) ?_ ?_
        rotate_left
        ·simp only [Act.put, sA, sZ, sS, i64_w, i32_w]
         rfl
        refine pure_ (i := 6) (N := some 96) (v := undef) (a' := ?_) (bs 23 127) rfl rfl (any_of HT_.out (by kernel_rfl)) (fun _ _ _ h => h) (Or.inr ⟨by rfl, rfl⟩) ?_ ?_
        rotate_left
        ·simp only [Act.put, sA, sZ, sS, i64_w, i32_w]
         rfl
        refine pure_ (i := 7) (N := some 97) (v := undef) (a' := ?_) (bs 23 255) rfl rfl (any_of HT_.out (by kernel_rfl)) (fun _ _ _ h => h) (Or.inr ⟨by rfl, rfl⟩) ?_ ?_
        rotate_left
        ·simp only [Act.put, sA, sZ, sS, i64_w, i32_w]
         rfl
        refine pure_ (i := 8) (N := some 98) (v := undef) (a' := ?_) (bs 23 511) rfl rfl (any_of HT_.out (by kernel_rfl)) (fun _ _ _ h => h) (Or.inr ⟨by rfl, rfl⟩) ?_ ?_
        rotate_left
        ·simp only [Act.put, sA, sZ, sS, i64_w, i32_w]
         rfl
        refine pure_ (i := 9) (N := some 99) (v := undef) (a' := ?_) (bs 23 1023) rfl rfl (any_of HT_.out (by kernel_rfl)) (fun _ _ _ h => h) (Or.inr ⟨by rfl, rfl⟩) ?_ ?_
        rotate_left
        ·simp only [Act.put, sA, sZ, sS, i64_w, i32_w]
         rfl
        refine pure_ (i := 10) (N := some 100) (v := undef) (a' := ?_) (bs 23 2047) rfl rfl (any_of HT_.out (by kernel_rfl)) (fun _ _ _ h => h) (Or.inr ⟨by rfl, rfl⟩) ?_ ?_
        rotate_left
        ·simp only [Act.put, sA, sZ, sS, i64_w, i32_w]
         rfl
        refine pure_ (i := 11) (N := some 101) (v := undef) (a' := ?_) (bs 23 4095) rfl rfl (any_of HT_.out (by kernel_rfl)) (fun _ _ _ h => h) (Or.inr ⟨by rfl, rfl⟩) ?_ ?_
        rotate_left
        ·simp only [Act.put, sA, sZ, sS, i64_w, i32_w]
         rfl
        refine pure_ (i := 12) (N := some 102) (v := undef) (a' := ?_) (bs 23 8191) rfl rfl (any_of HT_.out (by kernel_rfl)) (fun _ _ _ h => h) (Or.inr ⟨by rfl, rfl⟩) ?_ ?_
        rotate_left
        ·simp only [Act.put, sA, sZ, sS, i64_w, i32_w]
         rfl
        refine pure_ (i := 13) (N := some 103) (v := undef) (a' := ?_) (bs 23 16383) rfl rfl (any_of HT_.out (by kernel_rfl)) (fun _ _ _ h => h) (Or.inr ⟨by rfl, rfl⟩) ?_ ?_
        rotate_left
        ·simp only [Act.put, sA, sZ, sS, i64_w, i32_w]
         rfl
        refine pure_ (i := 14) (N := some 104) (v := undef) (a' := ?_) (bs 23 32767) rfl rfl (any_of HT_.out (by kernel_rfl)) (fun _ _ _ h => h) (Or.inr ⟨by rfl, rfl⟩) ?_ ?_
        rotate_left
        ·simp only [Act.put, sA, sZ, sS, i64_w, i32_w]
         rfl
        refine pure_ (i := 15) (N := some 105) (v := undef) (a' := ?_) (bs 23 65535) rfl rfl (any_of HT_.out (by kernel_rfl)) (fun _ _ _ h => h) (Or.inr ⟨by rfl, rfl⟩) ?_ ?_
        rotate_left
        ·simp only [Act.put, sA, sZ, sS, i64_w, i32_w]
         rfl
        refine pure_ (i := 16) (N := some 106) (v := undef) (a' := ?_) (bs 23 131071) rfl rfl (any_of HT_.out (by kernel_rfl)) (fun _ _ _ h => h) (Or.inr ⟨by rfl, rfl⟩) ?_ ?_
        rotate_left
        ·simp only [Act.put, sA, sZ, sS, i64_w, i32_w]
         rfl
        refine pure_ (i := 17) (N := some 107) (v := undef) (a' := ?_) (bs 23 262143) rfl rfl (any_of HT_.out (by kernel_rfl)) (fun _ _ _ h => h) (Or.inr ⟨by rfl, rfl⟩) ?_ ?_
        rotate_left
        ·simp only [Act.put, sA, sZ, sS, i64_w, i32_w]
         rfl
        refine pure_ (i := 18) (N := some 108) (v := undef) (a' := ?_) (bs 23 524287) rfl rfl (any_of HT_.out (by kernel_rfl)) (fun _ _ _ h => h) (Or.inr ⟨by rfl, rfl⟩) ?_ ?_
        rotate_left
        ·simp only [Act.put, sA, sZ, sS, i64_w, i32_w]
         rfl
        refine pure_ (i := 19) (N := some 109) (v := undef) (a' := ?_) (bs 23 1048575) rfl rfl (any_of HT_.out (by kernel_rfl)) (fun _ _ _ h => h) (Or.inr ⟨by rfl, rfl⟩) ?_ ?_
        rotate_left
        ·simp only [Act.put, sA, sZ, sS, i64_w, i32_w]
         rfl
        refine pure_ (i := 20) (N := some 110) (v := undef) (a' := ?_) (bs 23 2097151) rfl rfl (any_of HT_.out (by kernel_rfl)) (fun _ _ _ h => h) (Or.inr ⟨by rfl, rfl⟩) ?_ ?_
        rotate_left
        ·simp only [Act.put, sA, sZ, sS, i64_w, i32_w]
         rfl
        refine pure_ (i := 21) (N := some 111) (v := undef) (a' := ?_) (bs 23 4194303) rfl rfl (any_of HT_.out (by kernel_rfl)) (fun _ _ _ h => h) (Or.inr ⟨by rfl, rfl⟩) ?_ ?_
        rotate_left
        ·simp only [Act.put, sA, sZ, sS, i64_w, i32_w]
         rfl
        refine pure_ (i := 22) (N := some 112) (v := ?_) (a' := ?_) (bs 23 8388607) rfl rfl (any_of HT_.out (by kernel_rfl)) (fun _ _ _ h => h) (Or.inl ⟨by rfl, ?_⟩) ?_ ?_
        rotate_left
        ·intro w'
         go_simp
         with_reducible rfl
        rotate_left
        ·simp only [Act.put, sA, sZ, sS, i64_w, i32_w]
         rfl
        refine done_ (done_of HT_.out (by kernel_rfl)) ?_
        try go_wp2_with (first | ((with_reducible refine gate_builtin (b := .append) (xs := #[.tmp 123, .tmp 125]) rfl ?_); (try (refine gate_guard (by rfl) ?_; dsimp only)); at_builtin; refine Kd.R_append k58 (w0 := w) w.heap.size rfl (.tmp 123) (.tmp 125) 31 58 (.agg #[(.int .i64 0), (.string ⟨#[]⟩), (.int .i64 0), (.bool false), (.bool false), (.bool false)]) 40 rfl Try.underlying31 info58 rfl (by decide) (by omega) u7 x7_2 (⟨5, (⟨(⟨#[]⟩ : ByteArray), 0, false, false, false⟩ : S50)⟩ : S58) [.int .i64 5, .string (⟨#[]⟩ : ByteArray), .int .i64 0, .bool false, .bool false, .bool false] (fun _ => True) (fun _ => False) rfl rfl ?aP (fun _ hk => hk.elim) ?aF ?aO ?aB ?aS ?aL ?_; (case aP => exact k58_mkM _ _ _ (⟨5, (⟨(⟨#[]⟩ : ByteArray), 0, false, false, false⟩ : S50)⟩ : S58)); (case aB => exact (by first | exact bel HB.out | exact HB.out)); (case aF => exact (fun _ _ => trivial)); (case aO => exact (by exact rel <| HO_7.out)); (case aS => exact (below_size (by first | exact bel HB.out | exact HB.out))); (case aL => have := LMc81.out; omega); intro v339 w83 ho hb hg hat; rw [← Ny338.out] at ho; have n0_ := aS (Kd.S_over' (by (with_reducible repeat (first | apply Kd.S_alloc | apply Kd.S_drewN | apply Kd.S_drew)); exact HO_6.out) (Kd.R_typed (by exact rel <| HO_7.out)) (by decide) hg); have n1_ := aS (hb); have n2_ := aS (ho); clear HO_6; clear HB; clear HO_7; have HO_6 := n0_; have HB := n1_; have HO340 := n2_; clear n0_ n1_ n2_; clear ho hb hg hat))
        go_roundg kj12
        case measure => have := HJ2.out; have := HK2.out; have := HJ9.out; have := HJ12.out; omega
        case rel => exact ⟨(y338), (wrap64 (x8_2 + 1)), (x9_2), (by first | rfl | (simp; done) | (simp [*]; done)), (by first | rfl | (simp; done) | (simp [*]; done)), H', ⟨by have := HJ2.out; have := HK2.out; have := HJ9.out; have := HJ12.out; omega⟩, ⟨by (with_reducible repeat (first | apply Kd.S_alloc | apply Kd.S_drewN | apply Kd.S_drew)); exact HO_6.out⟩, ⟨by exact rel <| HO340.out⟩, ⟨by first | exact bel HB.out | exact HB.out⟩⟩
       rw [if_pos c64] at H
       have c64b0 : decide (x9_2 < (l1.length : Int)) = true := decide_eq_true c64
       clear c64
       by_cases c65 : 0 ≤ x8_2
       rotate_left
       ·rw [if_neg c65] at H
        exact absurd H (by simp)
       rw [if_pos c65] at H
       have c65b0 : decide (0 ≤ x8_2) = true := decide_eq_true c65
       clear c65
       by_cases c66 : x8_2 < (t294.length : Int)
       rotate_left
       ·rw [if_neg c66] at H
        exact absurd H (by simp)
       rw [if_pos c66] at H
       have c66b0 : decide (x8_2 < (t294.length : Int)) = true := decide_eq_true c66
       clear c66
       by_cases c67 : 0 ≤ x9_2
       rotate_left
       ·rw [if_neg c67] at H
        exact absurd H (by simp)
       rw [if_pos c67] at H
       have c67b0 : decide (0 ≤ x9_2) = true := decide_eq_true c67
       clear c67
       by_cases c68 : x9_2 < ((rd_L6 t294 x8_2).length : Int)
       rotate_left
       ·rw [if_neg c68] at H
        exact absurd H (by simp)
       rw [if_pos c68] at H
       have c68b0 : decide (x9_2 < ((rd_L6 t294 x8_2).length : Int)) = true := decide_eq_true c68
       clear c68
       obtain ⟨ji69, hji69⟩ : ∃ j_ : Int, (wrap64 (x9_2 + 1)) = j_ := ⟨_, rfl⟩
       replace H : (if 0 ≤ (ji69) then (if (ji69) < ((rd_L6 t294 x8_2).length : Int) then (if (rd (rd_L6 t294 x8_2) x9_2) = (wrap64 ((rd (rd_L6 t294 x8_2) (ji69)) + 2)) then (if x7_2.length < 3518437208883 then (salchowref25_Script.l0 kj12 l0 l1 t294 (x7_2 ++ [(⟨4, (⟨(rd_T50 l1 x9_2).f0, (rd_T50 l1 x9_2).f1, (rd_T50 l1 x9_2).f2, (rd_T50 l1 x9_2).f3, (rd_T50 l1 x9_2).f4⟩ : S50)⟩ : S58)]) x8_2 ji69) else (none)) else (if x7_2.length < 3518437208883 then (salchowref25_Script.l0 kj12 l0 l1 t294 (x7_2 ++ [(⟨5, (⟨(⟨#[]⟩ : ByteArray), 0, false, false, false⟩ : S50)⟩ : S58)]) (wrap64 (x8_2 + 1)) x9_2) else (none))) else (none)) else (none)) = some (r1, r2) := by first | (rw [hji69] at H; exact H) | (simp only [hji69] at H ⊢; exact H)
       have hji69w : (IntKind.i64.wrap (x9_2 + 1)) = ji69 := (i64_w _).trans hji69
       by_cases c70 : 0 ≤ (ji69)
       rotate_left
       ·rw [if_neg c70] at H
        exact absurd H (by simp)
       rw [if_pos c70] at H
       have c70b0 : decide (0 ≤ (ji69)) = true := decide_eq_true c70
       clear c70
       by_cases c71 : (ji69) < ((rd_L6 t294 x8_2).length : Int)
       rotate_left
       ·rw [if_neg c71] at H
        exact absurd H (by simp)
       rw [if_pos c71] at H
       have c71b0 : decide ((ji69) < ((rd_L6 t294 x8_2).length : Int)) = true := decide_eq_true c71
       clear c71
       by_cases c72 : (rd (rd_L6 t294 x8_2) x9_2) = (wrap64 ((rd (rd_L6 t294 x8_2) (ji69)) + 2))
       rotate_left
       ·rw [if_neg c72] at H
        have c72b0 : ((rd (rd_L6 t294 x8_2) x9_2) == (wrap64 ((rd (rd_L6 t294 x8_2) (ji69)) + 2))) = false := beq_eq_false_iff_ne.mpr c72
        have c72b1 : ((rd (rd_L6 t294 x8_2) x9_2) != (wrap64 ((rd (rd_L6 t294 x8_2) (ji69)) + 2))) = true := bne_iff_ne.mpr c72
        by_cases c77 : x7_2.length < 3518437208883
        rotate_left
        ·rw [if_neg c77] at H
         exact absurd H (by simp)
        rw [if_pos c77] at H
        have LMc77 := aS c77
        clear c77
        obtain ⟨y335, hy335⟩ : ∃ y_ : List (S58), y_ = (x7_2 ++ [(⟨5, (⟨(⟨#[]⟩ : ByteArray), 0, false, false, false⟩ : S50)⟩ : S58)]) := ⟨_, rfl⟩
        replace H : (salchowref25_Script.l0 kj12 l0 l1 t294 y335 (wrap64 (x8_2 + 1)) x9_2) = some (r1, r2) := by first | (rw [hy335]; with_reducible exact H) | (have H2_ := (Option.bind_some _ _).symm.trans H; rw [hy335]; with_reducible exact H2_) | (have H2_ := (Option.bind_some _ _).symm.trans H; with_reducible exact H2_) | with_reducible exact H | (rw [hy335]; exact H) | exact H
        have Ny335 := aS hy335
        clear hy335
        have H' := aS H
        clear H
        try go_wp2
        have n0_ := aS (Kd.S_drew HO_6.out)
        have n1_ := aS (Kd.R_drew HO_7.out)
        have n2_ := aS (below_drew1 HB.out)
        clear HO_6
        clear HO_7
        clear HB
        have HO_6 := n0_
        have HO_7 := n1_
        have HB := n2_
        clear n0_ n1_ n2_
        obtain ⟨Ao79, co79, eo79⟩ := Kd.S_slice HO_6.out
        (first | subst eo79 | (injection eo79 with f1_ f2_ f3_; have f4_ := f1_.symm; have f5_ := f3_.symm; clear f1_ f2_ f3_; subst f4_; subst f5_))
        have p327 : 0 ≤ (x8_2 : Int) := of_decide_eq_true (by first | (with_reducible assumption) | assumption)
        have q327 : x8_2 < (t294.length : Int) := of_decide_eq_true (by first | (with_reducible assumption) | assumption)
        obtain ⟨ad327, A327_0, c327_0, e327, hx327_0, hl327_0, hi327_0⟩ := at_L6 (Kd.S_reads' HO_6.out).2.2 x8_2 p327 q327
        cases e327
        obtain ⟨ce327, hce327, hMe327, hcc327⟩ := Kd.S_get HO_6.out [] x8_2 p327 (by first | exact q327 | exact of_decide_eq_true (by first | (with_reducible assumption) | assumption) | (have e_ := (Kd.S_reads' HO_6.out).1; omega))
        obtain ⟨ve327_0, rfl, ge327_0⟩ := hMe327
        have hv327_0 := hcc327 0 _ rfl
        rw [Nat.add_zero, show ((Kd.slice 3 (Kd.int .i64))).sz = 1 from rfl, Nat.mul_one] at hv327_0
        replace hv327_0 := Option.some.inj (hv327_0.symm.trans hx327_0)
        rw [hv327_0] at ge327_0
        have HL327_0 := aS (show Kd.R (Kd.int .i64) 3 _ _ _ _ (rd_L6 t294 x8_2) from ge327_0)
        clear hv327_0 ge327_0
        clear hcc327 hce327
        have HR327_0 := aS hi327_0
        have HC327_0 := aS hl327_0
        clear hi327_0 hl327_0
        replace p327 := eq_true p327
        replace q327 := eq_true q327
        have p328 : 0 ≤ (x9_2 : Int) := of_decide_eq_true (by first | (with_reducible assumption) | assumption)
        have q328 : x9_2 < ((rd_L6 t294 x8_2).length : Int) := of_decide_eq_true (by first | (with_reducible assumption) | assumption)
        obtain ⟨ad328, e328, hx328_0⟩ := Kd.at_int (by repeat (first | (with_reducible exact HR327_0.out) | (with_reducible apply Kd.C_alloc) | (with_reducible apply Kd.C_drewN) | (with_reducible apply Kd.C_drew) | exact HR327_0.out)) x9_2 p328 q328
        cases e328
        replace p328 := eq_true p328
        replace q328 := eq_true q328
        have p329 : 0 ≤ (x8_2 : Int) := of_decide_eq_true (by first | (with_reducible assumption) | assumption)
        have q329 : x8_2 < (t294.length : Int) := of_decide_eq_true (by first | (with_reducible assumption) | assumption)
        obtain ⟨ad329, A329_0, c329_0, e329, hx329_0, hl329_0, hi329_0⟩ := at_L6 (Kd.S_reads' HO_6.out).2.2 x8_2 p329 q329
        obtain rfl : ad327 = ad329 := (by injection e329)
        obtain ⟨ce329, hce329, hMe329, hcc329⟩ := Kd.S_get HO_6.out [] x8_2 p329 (by first | exact q329 | exact of_decide_eq_true (by first | (with_reducible assumption) | assumption) | (have e_ := (Kd.S_reads' HO_6.out).1; omega))
        obtain ⟨ve329_0, rfl, ge329_0⟩ := hMe329
        have hv329_0 := hcc329 0 _ rfl
        rw [Nat.add_zero, show ((Kd.slice 3 (Kd.int .i64))).sz = 1 from rfl, Nat.mul_one] at hv329_0
        replace hv329_0 := Option.some.inj (hv329_0.symm.trans hx329_0)
        rw [hv329_0] at ge329_0
        have HL329_0 := aS (show Kd.R (Kd.int .i64) 3 _ _ _ _ (rd_L6 t294 x8_2) from ge329_0)
        clear hv329_0 ge329_0
        clear hcc329 hce329
        have HR329_0 := aS hi329_0
        have HC329_0 := aS hl329_0
        clear hi329_0 hl329_0
        replace p329 := eq_true p329
        replace q329 := eq_true q329
        have ea_ := Option.some.inj (hx327_0.symm.trans hx329_0)
        injection ea_ with ea_ en_ ec_
        subst ea_
        subst ec_
        clear en_
        have p330 : 0 ≤ ((ji69) : Int) := of_decide_eq_true (by first | (with_reducible assumption) | assumption)
        have q330 : (ji69) < ((rd_L6 t294 x8_2).length : Int) := of_decide_eq_true (by first | (with_reducible assumption) | assumption)
        obtain ⟨ad330, e330, hx330_0⟩ := Kd.at_int (by repeat (first | (with_reducible exact HR329_0.out) | (with_reducible apply Kd.C_alloc) | (with_reducible apply Kd.C_drewN) | (with_reducible apply Kd.C_drew) | exact HR329_0.out)) (ji69) p330 q330
        cases e330
        replace p330 := eq_true p330
        replace q330 := eq_true q330
        refine start_ (n := 23) (S := fun w' => w'.cell? (ad327.add (x8_2).toNat) = some (.slice (some ad328) (rd_L6 t294 x8_2).length c327_0) ∧ w'.cell? (ad328.add (x9_2).toNat) = some (.int .i64 (rd (rd_L6 t294 x8_2) x9_2)) ∧ w'.cell? (ad327.add (x8_2).toNat) = some (.slice (some ad328) (rd_L6 t294 x8_2).length c327_0) ∧ w'.cell? (ad328.add ((ji69)).toNat) = some (.int .i64 (rd (rd_L6 t294 x8_2) (ji69)))) (ds := []) #[false, false, false, false, false, false, false, false, false, false, false, false, false, false, false, false, false, false, false, false, false, false, false] (by kernel_rfl) rfl rfl ⟨hx327_0, hx328_0, hx329_0, hx330_0⟩ (fun hHeld => ?_); refine with_tabW salchowref25_Script.tab15 salchowref25_Script.bits15 (fun HT_ HW_ => ?_)
        generalize wc.drew = w78 at HO_6 HO_7 HB HL327_0 HL329_0 HR327_0 HR329_0 hx327_0 hx328_0 hx329_0 hx330_0 hHeld ⊢
        refine pure_ (i := 0) (N := some 90) (v := ?_) (a' := ?_) (bs 23 1) rfl rfl (any_of HT_.out (by kernel_rfl)) (fun _ _ _ h => h) (Or.inl ⟨by rfl, ?_⟩) ?_ ?_
        rotate_left
        ·intro w'
         go_simp
         with_reducible rfl
        rotate_left
        ·simp only [Act.put, sA, sZ, sS, i64_w, i32_w]
         rfl
        refine pure_ (i := 1) (N := some 91) (v := ?_) (a' := ?_) (bs 23 3) rfl rfl (any_of HT_.out (by kernel_rfl)) (fun _ _ _ h => h) (Or.inl ⟨by rfl, ?_⟩) ?_ ?_
        rotate_left
        ·intro w'
         go_simp
         with_reducible rfl
        rotate_left
        ·simp only [Act.put, sA, sZ, sS, i64_w, i32_w]
         rfl
        refine pure_ (i := 2) (N := some 92) (v := ?_) (a' := ?_) (bs 23 7) rfl rfl (any_of HT_.out (by kernel_rfl)) (fun _ _ _ h => h) (Or.inl ⟨by rfl, ?_⟩) ?_ ?_
        rotate_left
        ·intro w'
         go_simp
         with_reducible rfl
        rotate_left
        ·simp only [Act.put, sA, sZ, sS, i64_w, i32_w]
         rfl
        refine pure_ (i := 3) (N := some 93) (v := ?_) (a' := ?_) (bs 23 15) rfl rfl (any_of HT_.out (by kernel_rfl)) (fun _ _ _ h => h) (Or.inl ⟨by rfl, ?_⟩) ?_ ?_
        rotate_left
        ·intro w'
         go_simp
         with_reducible rfl
        rotate_left
        ·simp only [Act.put, sA, sZ, sS, i64_w, i32_w]
         rfl
        refine pure_ (i := 4) (N := some 94) (v := ?_) (a' := ?_) (bs 23 31) rfl rfl (any_of HT_.out (by kernel_rfl)) (fun _ _ _ h => h) (Or.inl ⟨by rfl, ?_⟩) ?_ ?_
        rotate_left
        ·intro w'
         go_simp
         with_reducible rfl
        rotate_left
        ·simp only [Act.put, sA, sZ, sS, i64_w, i32_w]
         rfl
        refine pure_ (i := 5) (N := some 95) (v := ?_) (a' := ?_) (bs 23 63) rfl rfl (any_of HT_.out (by kernel_rfl)) (fun _ _ _ h => h) (Or.inl ⟨by rfl, ?_⟩) ?_ ?_
        rotate_left
        ·intro w'
         go_simp
         with_reducible rfl
        rotate_left
        ·simp only [Act.put, sA, sZ, sS, i64_w, i32_w]
         rfl
        refine pure_ (i := 6) (N := some 96) (v := ?_) (a' := ?_) (bs 23 127) rfl rfl (any_of HT_.out (by kernel_rfl)) (fun _ _ _ h => h) (Or.inl ⟨by rfl, ?_⟩) ?_ ?_
        rotate_left
        ·intro w'
         go_simp
         with_reducible rfl
        rotate_left
        ·simp only [Act.put, sA, sZ, sS, i64_w, i32_w]
         rfl
        refine pure_ (i := 7) (N := some 97) (v := ?_) (a' := ?_) (bs 23 255) rfl rfl (any_of HT_.out (by kernel_rfl)) (fun _ _ _ h => h) (Or.inl ⟨by rfl, ?_⟩) ?_ ?_
        rotate_left
        ·intro w'
         go_simp
         with_reducible rfl
        rotate_left
        ·simp only [Act.put, sA, sZ, sS, i64_w, i32_w]
         rfl
        refine pure_ (i := 9) (N := some 99) (v := ?_) (a' := ?_) (bs 23 767) rfl rfl (any_of HT_.out (by kernel_rfl)) (fun _ _ _ h => h) (Or.inl ⟨by rfl, ?_⟩) ?_ ?_
        rotate_left
        ·intro w'
         go_simp
         with_reducible rfl
        rotate_left
        ·simp only [Act.put, sA, sZ, sS, i64_w, i32_w]
         rfl
        refine pure_ (i := 12) (N := some 102) (v := ?_) (a' := ?_) (bs 23 4863) rfl rfl (any_of HT_.out (by kernel_rfl)) (fun _ _ _ h => h) (Or.inl ⟨by rfl, ?_⟩) ?_ ?_
        rotate_left
        ·intro w'
         go_simp
         with_reducible rfl
        rotate_left
        ·simp only [Act.put, sA, sZ, sS, i64_w, i32_w]
         rfl
        refine pure_ (i := 13) (N := some 103) (v := ?_) (a' := ?_) (bs 23 13055) rfl rfl (any_of HT_.out (by kernel_rfl)) (fun _ _ _ h => h) (Or.inl ⟨by rfl, ?_⟩) ?_ ?_
        rotate_left
        ·intro w'
         go_simp
         with_reducible rfl
        rotate_left
        ·simp only [Act.put, sA, sZ, sS, i64_w, i32_w]
         rfl
        refine pure_ (i := 14) (N := some 104) (v := ?_) (a' := ?_) (bs 23 29439) rfl rfl (any_of HT_.out (by kernel_rfl)) (fun _ _ _ h => h) (Or.inl ⟨by rfl, ?_⟩) ?_ ?_
        rotate_left
        ·intro w'
         go_simp
         with_reducible rfl
        rotate_left
        ·simp only [Act.put, sA, sZ, sS, i64_w, i32_w]
         rfl
        refine pure_ (i := 16) (N := some 106) (v := ?_) (a' := ?_) (bs 23 94975) rfl rfl (any_of HT_.out (by kernel_rfl)) (fun _ _ _ h => h) (Or.inl ⟨by rfl, ?_⟩) ?_ ?_
        rotate_left
        ·intro w'
         go_simp
         with_reducible rfl
        rotate_left
        ·simp only [Act.put, sA, sZ, sS, i64_w, i32_w]
         rfl
        refine pure_ (i := 17) (N := some 107) (v := ?_) (a' := ?_) (bs 23 226047) rfl rfl (any_of HT_.out (by kernel_rfl)) (fun _ _ _ h => h) (Or.inl ⟨by rfl, ?_⟩) ?_ ?_
        rotate_left
        ·intro w'
         go_simp
         with_reducible rfl
        rotate_left
        ·simp only [Act.put, sA, sZ, sS, i64_w, i32_w]
         rfl
        refine take_ (i := 8) (N := some 98) (v := ?_) (a' := ?_) (bs 23 226303) rfl rfl (take_ofW HT_.out HW_.out (by kernel_rfl)) (fun _ _ _ h => h) (Or.inl ⟨by rfl, ?_⟩) hHeld ?_ ?_
        rotate_left
        ·rintro w' ⟨s0, s1, s2, s3⟩
         go_simp
         with_reducible rfl
        rotate_left
        ·simp only [Act.put, sA, sZ, sS, i64_w, i32_w]
         rfl
        refine pure_ (i := 10) (N := some 100) (v := ?_) (a' := ?_) (bs 23 227327) rfl rfl (any_of HT_.out (by kernel_rfl)) (fun _ _ _ h => h) (Or.inl ⟨by rfl, ?_⟩) ?_ ?_
        rotate_left
        ·intro w'
         go_simp
         with_reducible rfl
        rotate_left
        ·simp only [Act.put, sA, sZ, sS, i64_w, i32_w]
         rfl
        refine take_ (i := 11) (N := some 101) (v := ?_) (a' := ?_) (bs 23 229375) rfl rfl (take_ofW HT_.out HW_.out (by kernel_rfl)) (fun _ _ _ h => h) (Or.inl ⟨by rfl, ?_⟩) hHeld ?_ ?_
        rotate_left
        ·rintro w' ⟨s0, s1, s2, s3⟩
         go_simp
         with_reducible rfl
        rotate_left
        ·simp only [Act.put, sA, sZ, sS, i64_w, i32_w]
         rfl
        refine take_ (i := 15) (N := some 105) (v := ?_) (a' := ?_) (bs 23 262143) rfl rfl (take_ofW HT_.out HW_.out (by kernel_rfl)) (fun _ _ _ h => h) (Or.inl ⟨by rfl, ?_⟩) hHeld ?_ ?_
        rotate_left
        ·rintro w' ⟨s0, s1, s2, s3⟩
         go_simp
         with_reducible rfl
        rotate_left
        ·simp only [Act.put, sA, sZ, sS, i64_w, i32_w]
         rfl
        refine pure_ (i := 18) (N := some 108) (v := ?_) (a' := ?_) (bs 23 524287) rfl rfl (any_of HT_.out (by kernel_rfl)) (fun _ _ _ h => h) (Or.inl ⟨by rfl, ?_⟩) ?_ ?_
        rotate_left
        ·intro w'
         go_simp
         with_reducible rfl
        rotate_left
        ·simp only [Act.put, sA, sZ, sS, i64_w, i32_w]
         rfl
        refine take_ (i := 19) (N := some 109) (v := ?_) (a' := ?_) (bs 23 1048575) rfl rfl (take_ofW HT_.out HW_.out (by kernel_rfl)) (fun _ _ _ h => h) (Or.inl ⟨by rfl, ?_⟩) hHeld ?_ ?_
        rotate_left
        ·rintro w' ⟨s0, s1, s2, s3⟩
         go_simp
         with_reducible rfl
        rotate_left
        ·simp only [Act.put, sA, sZ, sS, i64_w, i32_w]
         rfl
        refine pure_ (i := 20) (N := some 110) (v := ?_) (a' := ?_) (bs 23 2097151) rfl rfl (any_of HT_.out (by kernel_rfl)) (fun _ _ _ h => h) (Or.inl ⟨by rfl, ?_⟩) ?_ ?_
        rotate_left
        ·intro w'
         go_simp
         with_reducible rfl
        rotate_left
        ·simp only [Act.put, sA, sZ, sS, i64_w, i32_w]
         rfl
        refine pure_ (i := 21) (N := some 111) (v := ?_) (a' := ?_) (bs 23 4194303) rfl rfl (any_of HT_.out (by kernel_rfl)) (fun _ _ _ h => h) (Or.inl ⟨by rfl, ?_⟩) ?_ ?_
        rotate_left
        ·intro w'
         go_simp
         with_reducible rfl
        rotate_left
        ·simp only [Act.put, sA, sZ, sS, i64_w, i32_w]
         rfl
        refine pure_ (i := 22) (N := some 112) (v := ?_) (a' := ?_) (bs 23 8388607) rfl rfl (any_of HT_.out (by kernel_rfl)) (fun _ _ _ h => h) (Or.inl ⟨by rfl, ?_⟩) ?_ ?_
        rotate_left
        ·intro w'
         go_simp
         with_reducible rfl
        rotate_left
        ·simp only [Act.put, sA, sZ, sS, i64_w, i32_w]
         rfl
        refine done_ (done_of HT_.out (by kernel_rfl)) ?_
        try go_wp2_with (first | ((with_reducible refine gate_builtin (b := .append) (xs := #[.tmp 123, .tmp 125]) rfl ?_); (try (refine gate_guard (by rfl) ?_; dsimp only)); at_builtin; refine Kd.R_append k58 (w0 := w) w.heap.size rfl (.tmp 123) (.tmp 125) 31 58 (.agg #[(.int .i64 0), (.string ⟨#[]⟩), (.int .i64 0), (.bool false), (.bool false), (.bool false)]) 40 rfl Try.underlying31 info58 rfl (by decide) (by omega) u7 x7_2 (⟨5, (⟨(⟨#[]⟩ : ByteArray), 0, false, false, false⟩ : S50)⟩ : S58) [.int .i64 5, .string (⟨#[]⟩ : ByteArray), .int .i64 0, .bool false, .bool false, .bool false] (fun _ => True) (fun _ => False) rfl rfl ?aP (fun _ hk => hk.elim) ?aF ?aO ?aB ?aS ?aL ?_; (case aP => exact k58_mkM _ _ _ (⟨5, (⟨(⟨#[]⟩ : ByteArray), 0, false, false, false⟩ : S50)⟩ : S58)); (case aB => exact (by first | exact bel HB.out | exact HB.out)); (case aF => exact (fun _ _ => trivial)); (case aO => exact (by exact rel <| HO_7.out)); (case aS => exact (below_size (by first | exact bel HB.out | exact HB.out))); (case aL => have := LMc77.out; omega); intro v336 w80 ho hb hg hat; rw [← Ny335.out] at ho; have n0_ := aS (Kd.S_over' (by (with_reducible repeat (first | apply Kd.S_alloc | apply Kd.S_drewN | apply Kd.S_drew)); exact HO_6.out) (Kd.R_typed (by exact rel <| HO_7.out)) (by decide) hg); have n1_ := aS (Kd.R_over' (by exact rel <| HL327_0.out) (Kd.R_typed (by exact rel <| HO_7.out)) (by decide) hg); have n2_ := aS (Kd.R_over' (by exact rel <| HL329_0.out) (Kd.R_typed (by exact rel <| HO_7.out)) (by decide) hg); have n3_ := aS (hb); have n4_ := aS (ho); clear HO_6; clear HL327_0; clear HL329_0; clear HB; clear HO_7; have HO_6 := n0_; have HL327_0 := n1_; have HL329_0 := n2_; have HB := n3_; have HO337 := n4_; clear n0_ n1_ n2_ n3_ n4_; clear ho hb hg hat))
        go_roundg kj12
        case measure => have := HJ2.out; have := HK2.out; have := HJ9.out; have := HJ12.out; omega
        case rel => exact ⟨(y335), (wrap64 (x8_2 + 1)), (x9_2), (by first | rfl | (simp; done) | (simp [*]; done)), (by first | rfl | (simp; done) | (simp [*]; done)), H', ⟨by have := HJ2.out; have := HK2.out; have := HJ9.out; have := HJ12.out; omega⟩, ⟨by (with_reducible repeat (first | apply Kd.S_alloc | apply Kd.S_drewN | apply Kd.S_drew)); exact HO_6.out⟩, ⟨by exact rel <| HO337.out⟩, ⟨by first | exact bel HB.out | exact HB.out⟩⟩
       rw [if_pos c72] at H
       have c72b0 : ((rd (rd_L6 t294 x8_2) x9_2) == (wrap64 ((rd (rd_L6 t294 x8_2) (ji69)) + 2))) = true := beq_iff_eq.mpr c72
       have c72b1 : ((rd (rd_L6 t294 x8_2) x9_2) != (wrap64 ((rd (rd_L6 t294 x8_2) (ji69)) + 2))) = false := bne_eq_false_iff_eq.mpr c72
       clear c72
       by_cases c73 : x7_2.length < 3518437208883
       rotate_left
       ·rw [if_neg c73] at H
        exact absurd H (by simp)
       rw [if_pos c73] at H
       have LMc73 := aS c73
       clear c73
       obtain ⟨y332, hy332⟩ : ∃ y_ : List (S58), y_ = (x7_2 ++ [(⟨4, (⟨(rd_T50 l1 x9_2).f0, (rd_T50 l1 x9_2).f1, (rd_T50 l1 x9_2).f2, (rd_T50 l1 x9_2).f3, (rd_T50 l1 x9_2).f4⟩ : S50)⟩ : S58)]) := ⟨_, rfl⟩
       replace H : (salchowref25_Script.l0 kj12 l0 l1 t294 y332 x8_2 ji69) = some (r1, r2) := by first | (rw [hy332]; with_reducible exact H) | (have H2_ := (Option.bind_some _ _).symm.trans H; rw [hy332]; with_reducible exact H2_) | (have H2_ := (Option.bind_some _ _).symm.trans H; with_reducible exact H2_) | with_reducible exact H | (rw [hy332]; exact H) | exact H
       have Ny332 := aS hy332
       clear hy332
       have H' := aS H
       clear H
       try go_wp2
       have n0_ := aS (Kd.S_drew HO_6.out)
       have n1_ := aS (Kd.R_drew HO_7.out)
       have n2_ := aS (below_drew1 HB.out)
       clear HO_6
       clear HO_7
       clear HB
       have HO_6 := n0_
       have HO_7 := n1_
       have HB := n2_
       clear n0_ n1_ n2_
       obtain ⟨Ao75, co75, eo75⟩ := Kd.S_slice HO_6.out
       (first | subst eo75 | (injection eo75 with f1_ f2_ f3_; have f4_ := f1_.symm; have f5_ := f3_.symm; clear f1_ f2_ f3_; subst f4_; subst f5_))
       have p327 : 0 ≤ (x8_2 : Int) := of_decide_eq_true (by first | (with_reducible assumption) | assumption)
       have q327 : x8_2 < (t294.length : Int) := of_decide_eq_true (by first | (with_reducible assumption) | assumption)
       obtain ⟨ad327, A327_0, c327_0, e327, hx327_0, hl327_0, hi327_0⟩ := at_L6 (Kd.S_reads' HO_6.out).2.2 x8_2 p327 q327
       cases e327
       obtain ⟨ce327, hce327, hMe327, hcc327⟩ := Kd.S_get HO_6.out [] x8_2 p327 (by first | exact q327 | exact of_decide_eq_true (by first | (with_reducible assumption) | assumption) | (have e_ := (Kd.S_reads' HO_6.out).1; omega))
       obtain ⟨ve327_0, rfl, ge327_0⟩ := hMe327
       have hv327_0 := hcc327 0 _ rfl
       rw [Nat.add_zero, show ((Kd.slice 3 (Kd.int .i64))).sz = 1 from rfl, Nat.mul_one] at hv327_0
       replace hv327_0 := Option.some.inj (hv327_0.symm.trans hx327_0)
       rw [hv327_0] at ge327_0
       have HL327_0 := aS (show Kd.R (Kd.int .i64) 3 _ _ _ _ (rd_L6 t294 x8_2) from ge327_0)
       clear hv327_0 ge327_0
       clear hcc327 hce327
       have HR327_0 := aS hi327_0
       have HC327_0 := aS hl327_0
       clear hi327_0 hl327_0
       replace p327 := eq_true p327
       replace q327 := eq_true q327
       have p328 : 0 ≤ (x9_2 : Int) := of_decide_eq_true (by first | (with_reducible assumption) | assumption)
       have q328 : x9_2 < ((rd_L6 t294 x8_2).length : Int) := of_decide_eq_true (by first | (with_reducible assumption) | assumption)
       obtain ⟨ad328, e328, hx328_0⟩ := Kd.at_int (by repeat (first | (with_reducible exact HR327_0.out) | (with_reducible apply Kd.C_alloc) | (with_reducible apply Kd.C_drewN) | (with_reducible apply Kd.C_drew) | exact HR327_0.out)) x9_2 p328 q328
       cases e328
       replace p328 := eq_true p328
       replace q328 := eq_true q328
       have p329 : 0 ≤ (x8_2 : Int) := of_decide_eq_true (by first | (with_reducible assumption) | assumption)
       have q329 : x8_2 < (t294.length : Int) := of_decide_eq_true (by first | (with_reducible assumption) | assumption)
       obtain ⟨ad329, A329_0, c329_0, e329, hx329_0, hl329_0, hi329_0⟩ := at_L6 (Kd.S_reads' HO_6.out).2.2 x8_2 p329 q329
       obtain rfl : ad327 = ad329 := (by injection e329)
       obtain ⟨ce329, hce329, hMe329, hcc329⟩ := Kd.S_get HO_6.out [] x8_2 p329 (by first | exact q329 | exact of_decide_eq_true (by first | (with_reducible assumption) | assumption) | (have e_ := (Kd.S_reads' HO_6.out).1; omega))
       obtain ⟨ve329_0, rfl, ge329_0⟩ := hMe329
       have hv329_0 := hcc329 0 _ rfl
       rw [Nat.add_zero, show ((Kd.slice 3 (Kd.int .i64))).sz = 1 from rfl, Nat.mul_one] at hv329_0
       replace hv329_0 := Option.some.inj (hv329_0.symm.trans hx329_0)
       rw [hv329_0] at ge329_0
       have HL329_0 := aS (show Kd.R (Kd.int .i64) 3 _ _ _ _ (rd_L6 t294 x8_2) from ge329_0)
       clear hv329_0 ge329_0
       clear hcc329 hce329
       have HR329_0 := aS hi329_0
       have HC329_0 := aS hl329_0
       clear hi329_0 hl329_0
       replace p329 := eq_true p329
       replace q329 := eq_true q329
       have ea_ := Option.some.inj (hx327_0.symm.trans hx329_0)
       injection ea_ with ea_ en_ ec_
       subst ea_
       subst ec_
       clear en_
       have p330 : 0 ≤ ((ji69) : Int) := of_decide_eq_true (by first | (with_reducible assumption) | assumption)
       have q330 : (ji69) < ((rd_L6 t294 x8_2).length : Int) := of_decide_eq_true (by first | (with_reducible assumption) | assumption)
       obtain ⟨ad330, e330, hx330_0⟩ := Kd.at_int (by repeat (first | (with_reducible exact HR329_0.out) | (with_reducible apply Kd.C_alloc) | (with_reducible apply Kd.C_drewN) | (with_reducible apply Kd.C_drew) | exact HR329_0.out)) (ji69) p330 q330
       cases e330
       replace p330 := eq_true p330
       replace q330 := eq_true q330
       refine start_ (n := 23) (S := fun w' => w'.cell? (ad327.add (x8_2).toNat) = some (.slice (some ad328) (rd_L6 t294 x8_2).length c327_0) ∧ w'.cell? (ad328.add (x9_2).toNat) = some (.int .i64 (rd (rd_L6 t294 x8_2) x9_2)) ∧ w'.cell? (ad327.add (x8_2).toNat) = some (.slice (some ad328) (rd_L6 t294 x8_2).length c327_0) ∧ w'.cell? (ad328.add ((ji69)).toNat) = some (.int .i64 (rd (rd_L6 t294 x8_2) (ji69)))) (ds := []) #[false, false, false, false, false, false, false, false, false, false, false, false, false, false, false, false, false, false, false, false, false, false, false] (by kernel_rfl) rfl rfl ⟨hx327_0, hx328_0, hx329_0, hx330_0⟩ (fun hHeld => ?_); refine with_tabW salchowref25_Script.tab15 salchowref25_Script.bits15 (fun HT_ HW_ => ?_)
       generalize wc.drew = w74 at HO_6 HO_7 HB HL327_0 HL329_0 HR327_0 HR329_0 hx327_0 hx328_0 hx329_0 hx330_0 hHeld ⊢
       refine pure_ (i := 0) (N := some 90) (v := ?_) (a' := ?_) (bs 23 1) rfl rfl (any_of HT_.out (by kernel_rfl)) (fun _ _ _ h => h) (Or.inl ⟨by rfl, ?_⟩) ?_ ?_
       rotate_left
       ·intro w'
        go_simp
        with_reducible rfl
       rotate_left
       ·simp only [Act.put, sA, sZ, sS, i64_w, i32_w]
        rfl
       refine pure_ (i := 1) (N := some 91) (v := ?_) (a' := ?_) (bs 23 3) rfl rfl (any_of HT_.out (by kernel_rfl)) (fun _ _ _ h => h) (Or.inl ⟨by rfl, ?_⟩) ?_ ?_
       rotate_left
       ·intro w'
        go_simp
        with_reducible rfl
       rotate_left
       ·simp only [Act.put, sA, sZ, sS, i64_w, i32_w]
        rfl
       refine pure_ (i := 2) (N := some 92) (v := ?_) (a' := ?_) (bs 23 7) rfl rfl (any_of HT_.out (by kernel_rfl)) (fun _ _ _ h => h) (Or.inl ⟨by rfl, ?_⟩) ?_ ?_
       rotate_left
       ·intro w'
        go_simp
        with_reducible rfl
       rotate_left
       ·simp only [Act.put, sA, sZ, sS, i64_w, i32_w]
        rfl
       refine pure_ (i := 3) (N := some 93) (v := ?_) (a' := ?_) (bs 23 15) rfl rfl (any_of HT_.out (by kernel_rfl)) (fun _ _ _ h => h) (Or.inl ⟨by rfl, ?_⟩) ?_ ?_
       rotate_left
       ·intro w'
        go_simp
        with_reducible rfl
       rotate_left
       ·simp only [Act.put, sA, sZ, sS, i64_w, i32_w]
        rfl
       refine pure_ (i := 4) (N := some 94) (v := ?_) (a' := ?_) (bs 23 31) rfl rfl (any_of HT_.out (by kernel_rfl)) (fun _ _ _ h => h) (Or.inl ⟨by rfl, ?_⟩) ?_ ?_
       rotate_left
       ·intro w'
        go_simp
        with_reducible rfl
       rotate_left
       ·simp only [Act.put, sA, sZ, sS, i64_w, i32_w]
        rfl
       refine pure_ (i := 5) (N := some 95) (v := ?_) (a' := ?_) (bs 23 63) rfl rfl (any_of HT_.out (by kernel_rfl)) (fun _ _ _ h => h) (Or.inl ⟨by rfl, ?_⟩) ?_ ?_
       rotate_left
       ·intro w'
        go_simp
        with_reducible rfl
       rotate_left
       ·simp only [Act.put, sA, sZ, sS, i64_w, i32_w]
        rfl
       refine pure_ (i := 6) (N := some 96) (v := ?_) (a' := ?_) (bs 23 127) rfl rfl (any_of HT_.out (by kernel_rfl)) (fun _ _ _ h => h) (Or.inl ⟨by rfl, ?_⟩) ?_ ?_
       rotate_left
       ·intro w'
        go_simp
        with_reducible rfl
       rotate_left
       ·simp only [Act.put, sA, sZ, sS, i64_w, i32_w]
        rfl
       refine pure_ (i := 7) (N := some 97) (v := ?_) (a' := ?_) (bs 23 255) rfl rfl (any_of HT_.out (by kernel_rfl)) (fun _ _ _ h => h) (Or.inl ⟨by rfl, ?_⟩) ?_ ?_
       rotate_left
       ·intro w'
        go_simp
        with_reducible rfl
       rotate_left
       ·simp only [Act.put, sA, sZ, sS, i64_w, i32_w]
        rfl
       refine pure_ (i := 9) (N := some 99) (v := ?_) (a' := ?_) (bs 23 767) rfl rfl (any_of HT_.out (by kernel_rfl)) (fun _ _ _ h => h) (Or.inl ⟨by rfl, ?_⟩) ?_ ?_
       rotate_left
       ·intro w'
        go_simp
        with_reducible rfl
       rotate_left
       ·simp only [Act.put, sA, sZ, sS, i64_w, i32_w]
        rfl
       refine pure_ (i := 12) (N := some 102) (v := ?_) (a' := ?_) (bs 23 4863) rfl rfl (any_of HT_.out (by kernel_rfl)) (fun _ _ _ h => h) (Or.inl ⟨by rfl, ?_⟩) ?_ ?_
       rotate_left
       ·intro w'
        go_simp
        with_reducible rfl
       rotate_left
       ·simp only [Act.put, sA, sZ, sS, i64_w, i32_w]
        rfl
       refine pure_ (i := 13) (N := some 103) (v := ?_) (a' := ?_) (bs 23 13055) rfl rfl (any_of HT_.out (by kernel_rfl)) (fun _ _ _ h => h) (Or.inl ⟨by rfl, ?_⟩) ?_ ?_
       rotate_left
       ·intro w'
        go_simp
        with_reducible rfl
       rotate_left
       ·simp only [Act.put, sA, sZ, sS, i64_w, i32_w]
        rfl
       refine pure_ (i := 14) (N := some 104) (v := ?_) (a' := ?_) (bs 23 29439) rfl rfl (any_of HT_.out (by kernel_rfl)) (fun _ _ _ h => h) (Or.inl ⟨by rfl, ?_⟩) ?_ ?_
       rotate_left
       ·intro w'
        go_simp
        with_reducible rfl
       rotate_left
       ·simp only [Act.put, sA, sZ, sS, i64_w, i32_w]
        rfl
       refine pure_ (i := 16) (N := some 106) (v := ?_) (a' := ?_) (bs 23 94975) rfl rfl (any_of HT_.out (by kernel_rfl)) (fun _ _ _ h => h) (Or.inl ⟨by rfl, ?_⟩) ?_ ?_
       rotate_left
       ·intro w'
        go_simp
        with_reducible rfl
       rotate_left
       ·simp only [Act.put, sA, sZ, sS, i64_w, i32_w]
        rfl
       refine pure_ (i := 17) (N := some 107) (v := ?_) (a' := ?_) (bs 23 226047) rfl rfl (any_of HT_.out (by kernel_rfl)) (fun _ _ _ h => h) (Or.inl ⟨by rfl, ?_⟩) ?_ ?_
       rotate_left
       ·intro w'
        go_simp
        with_reducible rfl
       rotate_left
       ·simp only [Act.put, sA, sZ, sS, i64_w, i32_w]
        rfl
       refine take_ (i := 8) (N := some 98) (v := ?_) (a' := ?_) (bs 23 226303) rfl rfl (take_ofW HT_.out HW_.out (by kernel_rfl)) (fun _ _ _ h => h) (Or.inl ⟨by rfl, ?_⟩) hHeld ?_ ?_
       rotate_left
       ·rintro w' ⟨s0, s1, s2, s3⟩
        go_simp
        with_reducible rfl
       rotate_left
       ·simp only [Act.put, sA, sZ, sS, i64_w, i32_w]
        rfl
       refine pure_ (i := 10) (N := some 100) (v := ?_) (a' := ?_) (bs 23 227327) rfl rfl (any_of HT_.out (by kernel_rfl)) (fun _ _ _ h => h) (Or.inl ⟨by rfl, ?_⟩) ?_ ?_
       rotate_left
       ·intro w'
        go_simp
        with_reducible rfl
       rotate_left
       ·simp only [Act.put, sA, sZ, sS, i64_w, i32_w]
        rfl
       refine take_ (i := 11) (N := some 101) (v := ?_) (a' := ?_) (bs 23 229375) rfl rfl (take_ofW HT_.out HW_.out (by kernel_rfl)) (fun _ _ _ h => h) (Or.inl ⟨by rfl, ?_⟩) hHeld ?_ ?_
       rotate_left
       ·rintro w' ⟨s0, s1, s2, s3⟩
        go_simp
        with_reducible rfl
       rotate_left
       ·simp only [Act.put, sA, sZ, sS, i64_w, i32_w]
        rfl
       refine take_ (i := 15) (N := some 105) (v := ?_) (a' := ?_) (bs 23 262143) rfl rfl (take_ofW HT_.out HW_.out (by kernel_rfl)) (fun _ _ _ h => h) (Or.inl ⟨by rfl, ?_⟩) hHeld ?_ ?_
       rotate_left
       ·rintro w' ⟨s0, s1, s2, s3⟩
        go_simp
        with_reducible rfl
       rotate_left
       ·simp only [Act.put, sA, sZ, sS, i64_w, i32_w]
        rfl
       refine pure_ (i := 18) (N := some 108) (v := ?_) (a' := ?_) (bs 23 524287) rfl rfl (any_of HT_.out (by kernel_rfl)) (fun _ _ _ h => h) (Or.inl ⟨by rfl, ?_⟩) ?_ ?_
       rotate_left
       ·intro w'
        go_simp
        with_reducible rfl
       rotate_left
       ·simp only [Act.put, sA, sZ, sS, i64_w, i32_w]
        rfl
       refine take_ (i := 19) (N := some 109) (v := ?_) (a' := ?_) (bs 23 1048575) rfl rfl (take_ofW HT_.out HW_.out (by kernel_rfl)) (fun _ _ _ h => h) (Or.inl ⟨by rfl, ?_⟩) hHeld ?_ ?_
       rotate_left
       ·rintro w' ⟨s0, s1, s2, s3⟩
        go_simp
        with_reducible rfl
       rotate_left
       ·simp only [Act.put, sA, sZ, sS, i64_w, i32_w]
        rfl
       refine pure_ (i := 20) (N := some 110) (v := ?_) (a' := ?_) (bs 23 2097151) rfl rfl (any_of HT_.out (by kernel_rfl)) (fun _ _ _ h => h) (Or.inl ⟨by rfl, ?_⟩) ?_ ?_
       rotate_left
       ·intro w'
        go_simp
        with_reducible rfl
       rotate_left
       ·simp only [Act.put, sA, sZ, sS, i64_w, i32_w]
        rfl
       refine pure_ (i := 21) (N := some 111) (v := ?_) (a' := ?_) (bs 23 4194303) rfl rfl (any_of HT_.out (by kernel_rfl)) (fun _ _ _ h => h) (Or.inl ⟨by rfl, ?_⟩) ?_ ?_
       rotate_left
       ·intro w'
        go_simp
        with_reducible rfl
       rotate_left
       ·simp only [Act.put, sA, sZ, sS, i64_w, i32_w]
        rfl
       refine pure_ (i := 22) (N := some 112) (v := ?_) (a' := ?_) (bs 23 8388607) rfl rfl (any_of HT_.out (by kernel_rfl)) (fun _ _ _ h => h) (Or.inl ⟨by rfl, ?_⟩) ?_ ?_
       rotate_left
       ·intro w'
        go_simp
        with_reducible rfl
       rotate_left
       ·simp only [Act.put, sA, sZ, sS, i64_w, i32_w]
        rfl
       refine done_ (done_of HT_.out (by kernel_rfl)) ?_
       have p331 : 0 ≤ (x9_2 : Int) := of_decide_eq_true (by first | (with_reducible assumption) | assumption)
       have q331 : x9_2 < (l1.length : Int) := of_decide_eq_true (by first | (with_reducible assumption) | assumption)
       obtain ⟨ad331, e331, hx331_0, hx331_1, hx331_2, hx331_3, hx331_4⟩ := at_T50 HR1.out x9_2 p331 q331
       cases e331
       replace hx331_0 := hup HB.out hx331_0
       replace hx331_1 := hup HB.out hx331_1
       replace hx331_2 := hup HB.out hx331_2
       replace hx331_3 := hup HB.out hx331_3
       replace hx331_4 := hup HB.out hx331_4
       replace p331 := eq_true p331
       replace q331 := eq_true q331
       try go_wp2_with (first | ((with_reducible refine gate_builtin (b := .append) (xs := #[.tmp 113, .tmp 119]) rfl ?_); (try (refine gate_guard (by rfl) ?_; dsimp only)); at_builtin; refine Kd.R_append k58 (w0 := w) w.heap.size rfl (.tmp 113) (.tmp 119) 31 58 (.agg #[(.int .i64 0), (.string ⟨#[]⟩), (.int .i64 0), (.bool false), (.bool false), (.bool false)]) 40 rfl Try.underlying31 info58 rfl (by decide) (by omega) u7 x7_2 (⟨4, (⟨(rd_T50 l1 x9_2).f0, (rd_T50 l1 x9_2).f1, (rd_T50 l1 x9_2).f2, (rd_T50 l1 x9_2).f3, (rd_T50 l1 x9_2).f4⟩ : S50)⟩ : S58) [.int .i64 4, .string ((rd_T50 l1 x9_2).f0), .int .i64 ((rd_T50 l1 x9_2).f1), .bool ((rd_T50 l1 x9_2).f2), .bool ((rd_T50 l1 x9_2).f3), .bool ((rd_T50 l1 x9_2).f4)] (fun _ => True) (fun _ => False) rfl rfl ?aP (fun _ hk => hk.elim) ?aF ?aO ?aB ?aS ?aL ?_; (case aP => exact k58_mkM _ _ _ (⟨4, (⟨(rd_T50 l1 x9_2).f0, (rd_T50 l1 x9_2).f1, (rd_T50 l1 x9_2).f2, (rd_T50 l1 x9_2).f3, (rd_T50 l1 x9_2).f4⟩ : S50)⟩ : S58)); (case aB => exact (by first | exact bel HB.out | exact HB.out)); (case aF => exact (fun _ _ => trivial)); (case aO => exact (by exact rel <| HO_7.out)); (case aS => exact (below_size (by first | exact bel HB.out | exact HB.out))); (case aL => have := LMc73.out; omega); intro v333 w76 ho hb hg hat; rw [← Ny332.out] at ho; have n0_ := aS (Kd.S_over' (by (with_reducible repeat (first | apply Kd.S_alloc | apply Kd.S_drewN | apply Kd.S_drew)); exact HO_6.out) (Kd.R_typed (by exact rel <| HO_7.out)) (by decide) hg); have n1_ := aS (Kd.R_over' (by exact rel <| HL327_0.out) (Kd.R_typed (by exact rel <| HO_7.out)) (by decide) hg); have n2_ := aS (Kd.R_over' (by exact rel <| HL329_0.out) (Kd.R_typed (by exact rel <| HO_7.out)) (by decide) hg); have n3_ := aS (hb); have n4_ := aS (ho); clear HO_6; clear HL327_0; clear HL329_0; clear HB; clear HO_7; have HO_6 := n0_; have HL327_0 := n1_; have HL329_0 := n2_; have HB := n3_; have HO334 := n4_; clear n0_ n1_ n2_ n3_ n4_; clear ho hb hg hat))
       go_roundg kj12
       case measure => have := HJ2.out; have := HK2.out; have := HJ9.out; have := HJ12.out; omega
       case rel => exact ⟨(y332), (x8_2), (ji69), (by first | rfl | (simp; done) | (simp [*]; done)), (by first | rfl | (simp; done) | (simp only [← hji69] <;> (first | rfl | simp)) | (simp [*]; done)), H', ⟨by have := HJ2.out; have := HK2.out; have := HJ9.out; have := HJ12.out; omega⟩, ⟨by (with_reducible repeat (first | apply Kd.S_alloc | apply Kd.S_drewN | apply Kd.S_drew)); exact HO_6.out⟩, ⟨by exact rel <| HO334.out⟩, ⟨by first | exact bel HB.out | exact HB.out⟩⟩
      subst c15
      have H1 : (if 0 ≤ x8_2 then (if x8_2 < (l0.length : Int) then (if 0 ≤ x9_2 then (if x9_2 < (l1.length : Int) then ((salchowref25_Turn.f ((rd_T50 l0 x8_2).f0) ((rd_T50 l0 x8_2).f1) ((rd_T50 l0 x8_2).f2) ((rd_T50 l0 x8_2).f3) ((rd_T50 l0 x8_2).f4) ((rd_T50 l1 x9_2).f0) ((rd_T50 l1 x9_2).f1) ((rd_T50 l1 x9_2).f2) ((rd_T50 l1 x9_2).f3) ((rd_T50 l1 x9_2).f4)).bind fun t302 => (if x8_2 < (t294.length : Int) then (if x9_2 < ((rd_L6 t294 x8_2).length : Int) then (if 0 ≤ (wrap64 (x8_2 + 1)) then (if (wrap64 (x8_2 + 1)) < (t294.length : Int) then (if 0 ≤ (wrap64 (x9_2 + 1)) then (if (wrap64 (x9_2 + 1)) < ((rd_L6 t294 (wrap64 (x8_2 + 1))).length : Int) then ((salchowref25_Cost.f kj12 t302).bind fun t307 => (if (rd (rd_L6 t294 x8_2) x9_2) = (wrap64 ((rd (rd_L6 t294 (wrap64 (x8_2 + 1))) (wrap64 (x9_2 + 1))) + t307)) then (if t302 = 1 then (if x7_2.length < 3518437208883 then (salchowref25_Script.l0 kj12 l0 l1 t294 (x7_2 ++ [(⟨t302, (⟨(⟨#[]⟩ : ByteArray), 0, false, false, false⟩ : S50)⟩ : S58)]) (wrap64 (x8_2 + 1)) (wrap64 (x9_2 + 1))) else (none)) else (if x7_2.length < 3518437208883 then (salchowref25_Script.l0 kj12 l0 l1 t294 (x7_2 ++ [(⟨t302, (⟨(rd_T50 l1 x9_2).f0, (rd_T50 l1 x9_2).f1, (rd_T50 l1 x9_2).f2, (rd_T50 l1 x9_2).f3, (rd_T50 l1 x9_2).f4⟩ : S50)⟩ : S58)]) (wrap64 (x8_2 + 1)) (wrap64 (x9_2 + 1))) else (none))) else (if (wrap64 (x9_2 + 1)) < ((rd_L6 t294 x8_2).length : Int) then (if (rd (rd_L6 t294 x8_2) x9_2) = (wrap64 ((rd (rd_L6 t294 x8_2) (wrap64 (x9_2 + 1))) + 2)) then (if x7_2.length < 3518437208883 then (salchowref25_Script.l0 kj12 l0 l1 t294 (x7_2 ++ [(⟨4, (⟨(rd_T50 l1 x9_2).f0, (rd_T50 l1 x9_2).f1, (rd_T50 l1 x9_2).f2, (rd_T50 l1 x9_2).f3, (rd_T50 l1 x9_2).f4⟩ : S50)⟩ : S58)]) x8_2 (wrap64 (x9_2 + 1))) else (none)) else (if x7_2.length < 3518437208883 then (salchowref25_Script.l0 kj12 l0 l1 t294 (x7_2 ++ [(⟨5, (⟨(⟨#[]⟩ : ByteArray), 0, false, false, false⟩ : S50)⟩ : S58)]) (wrap64 (x8_2 + 1)) x9_2) else (none))) else (none)))) else (none)) else (none)) else (none)) else (none)) else (none)) else (none))) else (none)) else (none)) else (none)) else (none)) = some (r1, r2) := by rw [if_pos rfl] at H; exact H
      clear H
      have H := H1
      clear H1
      by_cases c16 : 0 ≤ x8_2
      rotate_left
      ·rw [if_neg c16] at H
       exact absurd H (by simp)
      rw [if_pos c16] at H
      have c16b0 : decide (0 ≤ x8_2) = true := decide_eq_true c16
      clear c16
      by_cases c17 : x8_2 < (l0.length : Int)
      rotate_left
      ·rw [if_neg c17] at H
       exact absurd H (by simp)
      rw [if_pos c17] at H
      have c17b0 : decide (x8_2 < (l0.length : Int)) = true := decide_eq_true c17
      clear c17
      by_cases c18 : 0 ≤ x9_2
      rotate_left
      ·rw [if_neg c18] at H
       exact absurd H (by simp)
      rw [if_pos c18] at H
      have c18b0 : decide (0 ≤ x9_2) = true := decide_eq_true c18
      clear c18
      by_cases c19 : x9_2 < (l1.length : Int)
      rotate_left
      ·rw [if_neg c19] at H
       exact absurd H (by simp)
      rw [if_pos c19] at H
      have c19b0 : decide (x9_2 < (l1.length : Int)) = true := decide_eq_true c19
      clear c19
      replace H := Option.bind_eq_some_iff.mp H
      obtain ⟨t302, A200, H⟩ := H
      replace H : (if x8_2 < (t294.length : Int) then (if x9_2 < ((rd_L6 t294 x8_2).length : Int) then (if 0 ≤ (wrap64 (x8_2 + 1)) then (if (wrap64 (x8_2 + 1)) < (t294.length : Int) then (if 0 ≤ (wrap64 (x9_2 + 1)) then (if (wrap64 (x9_2 + 1)) < ((rd_L6 t294 (wrap64 (x8_2 + 1))).length : Int) then ((salchowref25_Cost.f kj12 t302).bind fun t307 => (if (rd (rd_L6 t294 x8_2) x9_2) = (wrap64 ((rd (rd_L6 t294 (wrap64 (x8_2 + 1))) (wrap64 (x9_2 + 1))) + t307)) then (if t302 = 1 then (if x7_2.length < 3518437208883 then (salchowref25_Script.l0 kj12 l0 l1 t294 (x7_2 ++ [(⟨t302, (⟨(⟨#[]⟩ : ByteArray), 0, false, false, false⟩ : S50)⟩ : S58)]) (wrap64 (x8_2 + 1)) (wrap64 (x9_2 + 1))) else (none)) else (if x7_2.length < 3518437208883 then (salchowref25_Script.l0 kj12 l0 l1 t294 (x7_2 ++ [(⟨t302, (⟨(rd_T50 l1 x9_2).f0, (rd_T50 l1 x9_2).f1, (rd_T50 l1 x9_2).f2, (rd_T50 l1 x9_2).f3, (rd_T50 l1 x9_2).f4⟩ : S50)⟩ : S58)]) (wrap64 (x8_2 + 1)) (wrap64 (x9_2 + 1))) else (none))) else (if (wrap64 (x9_2 + 1)) < ((rd_L6 t294 x8_2).length : Int) then (if (rd (rd_L6 t294 x8_2) x9_2) = (wrap64 ((rd (rd_L6 t294 x8_2) (wrap64 (x9_2 + 1))) + 2)) then (if x7_2.length < 3518437208883 then (salchowref25_Script.l0 kj12 l0 l1 t294 (x7_2 ++ [(⟨4, (⟨(rd_T50 l1 x9_2).f0, (rd_T50 l1 x9_2).f1, (rd_T50 l1 x9_2).f2, (rd_T50 l1 x9_2).f3, (rd_T50 l1 x9_2).f4⟩ : S50)⟩ : S58)]) x8_2 (wrap64 (x9_2 + 1))) else (none)) else (if x7_2.length < 3518437208883 then (salchowref25_Script.l0 kj12 l0 l1 t294 (x7_2 ++ [(⟨5, (⟨(⟨#[]⟩ : ByteArray), 0, false, false, false⟩ : S50)⟩ : S58)]) (wrap64 (x8_2 + 1)) x9_2) else (none))) else (none)))) else (none)) else (none)) else (none)) else (none)) else (none)) else (none)) = some (r1, r2) := H
      have A20 := aS A200
      clear A200
      by_cases c21 : x8_2 < (t294.length : Int)
      rotate_left
      ·rw [if_neg c21] at H
       exact absurd H (by simp)
      rw [if_pos c21] at H
      have c21b0 : decide (x8_2 < (t294.length : Int)) = true := decide_eq_true c21
      clear c21
      by_cases c22 : x9_2 < ((rd_L6 t294 x8_2).length : Int)
      rotate_left
      ·rw [if_neg c22] at H
       exact absurd H (by simp)
      rw [if_pos c22] at H
      have c22b0 : decide (x9_2 < ((rd_L6 t294 x8_2).length : Int)) = true := decide_eq_true c22
      clear c22
      obtain ⟨ji23, hji23⟩ : ∃ j_ : Int, (wrap64 (x8_2 + 1)) = j_ := ⟨_, rfl⟩
      replace H : (if 0 ≤ (ji23) then (if (ji23) < (t294.length : Int) then (if 0 ≤ (wrap64 (x9_2 + 1)) then (if (wrap64 (x9_2 + 1)) < ((rd_L6 t294 (ji23)).length : Int) then ((salchowref25_Cost.f kj12 t302).bind fun t307 => (if (rd (rd_L6 t294 x8_2) x9_2) = (wrap64 ((rd (rd_L6 t294 (ji23)) (wrap64 (x9_2 + 1))) + t307)) then (if t302 = 1 then (if x7_2.length < 3518437208883 then (salchowref25_Script.l0 kj12 l0 l1 t294 (x7_2 ++ [(⟨t302, (⟨(⟨#[]⟩ : ByteArray), 0, false, false, false⟩ : S50)⟩ : S58)]) ji23 (wrap64 (x9_2 + 1))) else (none)) else (if x7_2.length < 3518437208883 then (salchowref25_Script.l0 kj12 l0 l1 t294 (x7_2 ++ [(⟨t302, (⟨(rd_T50 l1 x9_2).f0, (rd_T50 l1 x9_2).f1, (rd_T50 l1 x9_2).f2, (rd_T50 l1 x9_2).f3, (rd_T50 l1 x9_2).f4⟩ : S50)⟩ : S58)]) ji23 (wrap64 (x9_2 + 1))) else (none))) else (if (wrap64 (x9_2 + 1)) < ((rd_L6 t294 x8_2).length : Int) then (if (rd (rd_L6 t294 x8_2) x9_2) = (wrap64 ((rd (rd_L6 t294 x8_2) (wrap64 (x9_2 + 1))) + 2)) then (if x7_2.length < 3518437208883 then (salchowref25_Script.l0 kj12 l0 l1 t294 (x7_2 ++ [(⟨4, (⟨(rd_T50 l1 x9_2).f0, (rd_T50 l1 x9_2).f1, (rd_T50 l1 x9_2).f2, (rd_T50 l1 x9_2).f3, (rd_T50 l1 x9_2).f4⟩ : S50)⟩ : S58)]) x8_2 (wrap64 (x9_2 + 1))) else (none)) else (if x7_2.length < 3518437208883 then (salchowref25_Script.l0 kj12 l0 l1 t294 (x7_2 ++ [(⟨5, (⟨(⟨#[]⟩ : ByteArray), 0, false, false, false⟩ : S50)⟩ : S58)]) ji23 x9_2) else (none))) else (none)))) else (none)) else (none)) else (none)) else (none)) = some (r1, r2) := by first | (rw [hji23] at H; exact H) | (simp only [hji23] at H ⊢; exact H)
      (try rw [hji23] at A20)
      have hji23w : (IntKind.i64.wrap (x8_2 + 1)) = ji23 := (i64_w _).trans hji23
      by_cases c24 : 0 ≤ (ji23)
      rotate_left
      ·rw [if_neg c24] at H
       exact absurd H (by simp)
      rw [if_pos c24] at H
      have c24b0 : decide (0 ≤ (ji23)) = true := decide_eq_true c24
      clear c24
      by_cases c25 : (ji23) < (t294.length : Int)
      rotate_left
      ·rw [if_neg c25] at H
       exact absurd H (by simp)
      rw [if_pos c25] at H
      have c25b0 : decide ((ji23) < (t294.length : Int)) = true := decide_eq_true c25
      clear c25
      obtain ⟨ji26, hji26⟩ : ∃ j_ : Int, (wrap64 (x9_2 + 1)) = j_ := ⟨_, rfl⟩
      replace H : (if 0 ≤ (ji26) then (if (ji26) < ((rd_L6 t294 (ji23)).length : Int) then ((salchowref25_Cost.f kj12 t302).bind fun t307 => (if (rd (rd_L6 t294 x8_2) x9_2) = (wrap64 ((rd (rd_L6 t294 (ji23)) (ji26)) + t307)) then (if t302 = 1 then (if x7_2.length < 3518437208883 then (salchowref25_Script.l0 kj12 l0 l1 t294 (x7_2 ++ [(⟨t302, (⟨(⟨#[]⟩ : ByteArray), 0, false, false, false⟩ : S50)⟩ : S58)]) ji23 ji26) else (none)) else (if x7_2.length < 3518437208883 then (salchowref25_Script.l0 kj12 l0 l1 t294 (x7_2 ++ [(⟨t302, (⟨(rd_T50 l1 x9_2).f0, (rd_T50 l1 x9_2).f1, (rd_T50 l1 x9_2).f2, (rd_T50 l1 x9_2).f3, (rd_T50 l1 x9_2).f4⟩ : S50)⟩ : S58)]) ji23 ji26) else (none))) else (if (ji26) < ((rd_L6 t294 x8_2).length : Int) then (if (rd (rd_L6 t294 x8_2) x9_2) = (wrap64 ((rd (rd_L6 t294 x8_2) (ji26)) + 2)) then (if x7_2.length < 3518437208883 then (salchowref25_Script.l0 kj12 l0 l1 t294 (x7_2 ++ [(⟨4, (⟨(rd_T50 l1 x9_2).f0, (rd_T50 l1 x9_2).f1, (rd_T50 l1 x9_2).f2, (rd_T50 l1 x9_2).f3, (rd_T50 l1 x9_2).f4⟩ : S50)⟩ : S58)]) x8_2 ji26) else (none)) else (if x7_2.length < 3518437208883 then (salchowref25_Script.l0 kj12 l0 l1 t294 (x7_2 ++ [(⟨5, (⟨(⟨#[]⟩ : ByteArray), 0, false, false, false⟩ : S50)⟩ : S58)]) ji23 x9_2) else (none))) else (none)))) else (none)) else (none)) = some (r1, r2) := by first | (rw [hji26] at H; exact H) | (simp only [hji26] at H ⊢; exact H)
      (try rw [hji26] at A20)
      have hji26w : (IntKind.i64.wrap (x9_2 + 1)) = ji26 := (i64_w _).trans hji26
      by_cases c27 : 0 ≤ (ji26)
      rotate_left
      ·rw [if_neg c27] at H
       exact absurd H (by simp)
      rw [if_pos c27] at H
      have c27b0 : decide (0 ≤ (ji26)) = true := decide_eq_true c27
      clear c27
      by_cases c28 : (ji26) < ((rd_L6 t294 (ji23)).length : Int)
      rotate_left
      ·rw [if_neg c28] at H
       exact absurd H (by simp)
      rw [if_pos c28] at H
      have c28b0 : decide ((ji26) < ((rd_L6 t294 (ji23)).length : Int)) = true := decide_eq_true c28
      clear c28
      replace H := Option.bind_eq_some_iff.mp H
      obtain ⟨t307, A290, H⟩ := H
      replace H : (if (rd (rd_L6 t294 x8_2) x9_2) = (wrap64 ((rd (rd_L6 t294 (ji23)) (ji26)) + t307)) then (if t302 = 1 then (if x7_2.length < 3518437208883 then (salchowref25_Script.l0 kj12 l0 l1 t294 (x7_2 ++ [(⟨t302, (⟨(⟨#[]⟩ : ByteArray), 0, false, false, false⟩ : S50)⟩ : S58)]) ji23 ji26) else (none)) else (if x7_2.length < 3518437208883 then (salchowref25_Script.l0 kj12 l0 l1 t294 (x7_2 ++ [(⟨t302, (⟨(rd_T50 l1 x9_2).f0, (rd_T50 l1 x9_2).f1, (rd_T50 l1 x9_2).f2, (rd_T50 l1 x9_2).f3, (rd_T50 l1 x9_2).f4⟩ : S50)⟩ : S58)]) ji23 ji26) else (none))) else (if (ji26) < ((rd_L6 t294 x8_2).length : Int) then (if (rd (rd_L6 t294 x8_2) x9_2) = (wrap64 ((rd (rd_L6 t294 x8_2) (ji26)) + 2)) then (if x7_2.length < 3518437208883 then (salchowref25_Script.l0 kj12 l0 l1 t294 (x7_2 ++ [(⟨4, (⟨(rd_T50 l1 x9_2).f0, (rd_T50 l1 x9_2).f1, (rd_T50 l1 x9_2).f2, (rd_T50 l1 x9_2).f3, (rd_T50 l1 x9_2).f4⟩ : S50)⟩ : S58)]) x8_2 ji26) else (none)) else (if x7_2.length < 3518437208883 then (salchowref25_Script.l0 kj12 l0 l1 t294 (x7_2 ++ [(⟨5, (⟨(⟨#[]⟩ : ByteArray), 0, false, false, false⟩ : S50)⟩ : S58)]) ji23 x9_2) else (none))) else (none))) = some (r1, r2) := H
      have A29 := aS A290
      clear A290
      by_cases c30 : (rd (rd_L6 t294 x8_2) x9_2) = (wrap64 ((rd (rd_L6 t294 (ji23)) (ji26)) + t307))
      ·rw [if_pos c30] at H
       have c30b0 : ((rd (rd_L6 t294 x8_2) x9_2) == (wrap64 ((rd (rd_L6 t294 (ji23)) (ji26)) + t307))) = true := beq_iff_eq.mpr c30
       have c30b1 : ((rd (rd_L6 t294 x8_2) x9_2) != (wrap64 ((rd (rd_L6 t294 (ji23)) (ji26)) + t307))) = false := bne_eq_false_iff_eq.mpr c30
       clear c30
       by_cases c31 : t302 = 1
       rotate_left
       ·rw [if_neg c31] at H
        have c31b0 : (t302 == 1) = false := beq_eq_false_iff_ne.mpr c31
        have c31b1 : (t302 != 1) = true := bne_iff_ne.mpr c31
        by_cases c40 : x7_2.length < 3518437208883
        rotate_left
        ·rw [if_neg c40] at H
         exact absurd H (by simp)
        rw [if_pos c40] at H
        have LMc40 := aS c40
        clear c40
        obtain ⟨y313, hy313⟩ : ∃ y_ : List (S58), y_ = (x7_2 ++ [(⟨t302, (⟨(rd_T50 l1 x9_2).f0, (rd_T50 l1 x9_2).f1, (rd_T50 l1 x9_2).f2, (rd_T50 l1 x9_2).f3, (rd_T50 l1 x9_2).f4⟩ : S50)⟩ : S58)]) := ⟨_, rfl⟩
        replace H : (salchowref25_Script.l0 kj12 l0 l1 t294 y313 ji23 ji26) = some (r1, r2) := by first | (rw [hy313]; with_reducible exact H) | (have H2_ := (Option.bind_some _ _).symm.trans H; rw [hy313]; with_reducible exact H2_) | (have H2_ := (Option.bind_some _ _).symm.trans H; with_reducible exact H2_) | with_reducible exact H | (rw [hy313]; exact H) | exact H
        have Ny313 := aS hy313
        clear hy313
        have H' := aS H
        clear H
        try go_wp2
        have n0_ := aS (Kd.S_drew HO_6.out)
        have n1_ := aS (Kd.R_drew HO_7.out)
        have n2_ := aS (below_drew1 HB.out)
        clear HO_6
        clear HO_7
        clear HB
        have HO_6 := n0_
        have HO_7 := n1_
        have HB := n2_
        clear n0_ n1_ n2_
        have p300 : 0 ≤ (x8_2 : Int) := of_decide_eq_true (by first | (with_reducible assumption) | assumption)
        have q300 : x8_2 < (l0.length : Int) := of_decide_eq_true (by first | (with_reducible assumption) | assumption)
        obtain ⟨ad300, e300, hx300_0, hx300_1, hx300_2, hx300_3, hx300_4⟩ := at_T50 HR0.out x8_2 p300 q300
        have hw300_4 := hx300_4
        have hw300_3 := hx300_3
        have hw300_2 := hx300_2
        have hw300_1 := hx300_1
        have hw300_0 := hx300_0
        cases e300
        replace hx300_0 := hup HB.out hx300_0
        replace hx300_1 := hup HB.out hx300_1
        replace hx300_2 := hup HB.out hx300_2
        replace hx300_3 := hup HB.out hx300_3
        replace hx300_4 := hup HB.out hx300_4
        replace p300 := eq_true p300
        replace q300 := eq_true q300
        have p301 : 0 ≤ (x9_2 : Int) := of_decide_eq_true (by first | (with_reducible assumption) | assumption)
        have q301 : x9_2 < (l1.length : Int) := of_decide_eq_true (by first | (with_reducible assumption) | assumption)
        obtain ⟨ad301, e301, hx301_0, hx301_1, hx301_2, hx301_3, hx301_4⟩ := at_T50 HR1.out x9_2 p301 q301
        have hw301_4 := hx301_4
        have hw301_3 := hx301_3
        have hw301_2 := hx301_2
        have hw301_1 := hx301_1
        have hw301_0 := hx301_0
        cases e301
        replace hx301_0 := hup HB.out hx301_0
        replace hx301_1 := hup HB.out hx301_1
        replace hx301_2 := hup HB.out hx301_2
        replace hx301_3 := hup HB.out hx301_3
        replace hx301_4 := hup HB.out hx301_4
        replace p301 := eq_true p301
        replace q301 := eq_true q301
        refine start_ (n := 10) (S := fun w' => w'.cell? (ad300.add ((x8_2).toNat * 5)) = some (.string ((rd_T50 l0 x8_2).f0)) ∧ w'.cell? ⟨(ad300.add ((x8_2).toNat * 5)).block, (ad300.add ((x8_2).toNat * 5)).off + 1, none⟩ = some (.int .i64 ((rd_T50 l0 x8_2).f1)) ∧ w'.cell? ⟨(ad300.add ((x8_2).toNat * 5)).block, (ad300.add ((x8_2).toNat * 5)).off + 2, none⟩ = some (.bool ((rd_T50 l0 x8_2).f2)) ∧ w'.cell? ⟨(ad300.add ((x8_2).toNat * 5)).block, (ad300.add ((x8_2).toNat * 5)).off + 3, none⟩ = some (.bool ((rd_T50 l0 x8_2).f3)) ∧ w'.cell? ⟨(ad300.add ((x8_2).toNat * 5)).block, (ad300.add ((x8_2).toNat * 5)).off + 4, none⟩ = some (.bool ((rd_T50 l0 x8_2).f4)) ∧ w'.cell? (ad301.add ((x9_2).toNat * 5)) = some (.string ((rd_T50 l1 x9_2).f0)) ∧ w'.cell? ⟨(ad301.add ((x9_2).toNat * 5)).block, (ad301.add ((x9_2).toNat * 5)).off + 1, none⟩ = some (.int .i64 ((rd_T50 l1 x9_2).f1)) ∧ w'.cell? ⟨(ad301.add ((x9_2).toNat * 5)).block, (ad301.add ((x9_2).toNat * 5)).off + 2, none⟩ = some (.bool ((rd_T50 l1 x9_2).f2)) ∧ w'.cell? ⟨(ad301.add ((x9_2).toNat * 5)).block, (ad301.add ((x9_2).toNat * 5)).off + 3, none⟩ = some (.bool ((rd_T50 l1 x9_2).f3)) ∧ w'.cell? ⟨(ad301.add ((x9_2).toNat * 5)).block, (ad301.add ((x9_2).toNat * 5)).off + 4, none⟩ = some (.bool ((rd_T50 l1 x9_2).f4))) (ds := []) #[false, false, false, false, false, false, false, false, false, false] (by kernel_rfl) rfl rfl ⟨(hup HB.out hw300_0), (hup HB.out hw300_1), (hup HB.out hw300_2), (hup HB.out hw300_3), (hup HB.out hw300_4), (hup HB.out hw301_0), (hup HB.out hw301_1), (hup HB.out hw301_2), (hup HB.out hw301_3), (hup HB.out hw301_4)⟩ (fun hHeld => ?_); refine with_tabW salchowref25_Script.tab8 salchowref25_Script.bits8 (fun HT_ HW_ => ?_)
        generalize wc.drew = w41 at HO_6 HO_7 HB hx300_0 hx300_1 hx300_2 hx300_3 hx300_4 hx301_0 hx301_1 hx301_2 hx301_3 hx301_4 hHeld ⊢
        refine pure_ (i := 0) (N := some 44) (v := ?_) (a' := ?_) (bs 10 1) rfl rfl (any_of HT_.out (by kernel_rfl)) (fun _ _ _ h => h) (Or.inl ⟨by rfl, ?_⟩) ?_ ?_
        rotate_left
        ·intro w'
         go_simp
         with_reducible rfl
        rotate_left
        ·simp only [Act.put, sA, sZ, sS, i64_w, i32_w]
         rfl
        refine pure_ (i := 1) (N := some 45) (v := ?_) (a' := ?_) (bs 10 3) rfl rfl (any_of HT_.out (by kernel_rfl)) (fun _ _ _ h => h) (Or.inl ⟨by rfl, ?_⟩) ?_ ?_
        rotate_left
        ·intro w'
         go_simp
         with_reducible rfl
        rotate_left
        ·simp only [Act.put, sA, sZ, sS, i64_w, i32_w]
         rfl
        refine pure_ (i := 2) (N := some 46) (v := ?_) (a' := ?_) (bs 10 7) rfl rfl (any_of HT_.out (by kernel_rfl)) (fun _ _ _ h => h) (Or.inl ⟨by rfl, ?_⟩) ?_ ?_
        rotate_left
        ·intro w'
         go_simp
         with_reducible rfl
        rotate_left
        ·simp only [Act.put, sA, sZ, sS, i64_w, i32_w]
         rfl
        refine pure_ (i := 4) (N := some 48) (v := ?_) (a' := ?_) (bs 10 23) rfl rfl (any_of HT_.out (by kernel_rfl)) (fun _ _ _ h => h) (Or.inl ⟨by rfl, ?_⟩) ?_ ?_
        rotate_left
        ·intro w'
         go_simp
         with_reducible rfl
        rotate_left
        ·simp only [Act.put, sA, sZ, sS, i64_w, i32_w]
         rfl
        refine pure_ (i := 5) (N := some 49) (v := ?_) (a' := ?_) (bs 10 55) rfl rfl (any_of HT_.out (by kernel_rfl)) (fun _ _ _ h => h) (Or.inl ⟨by rfl, ?_⟩) ?_ ?_
        rotate_left
        ·intro w'
         go_simp
         with_reducible rfl
        rotate_left
        ·simp only [Act.put, sA, sZ, sS, i64_w, i32_w]
         rfl
        refine pure_ (i := 6) (N := some 50) (v := ?_) (a' := ?_) (bs 10 119) rfl rfl (any_of HT_.out (by kernel_rfl)) (fun _ _ _ h => h) (Or.inl ⟨by rfl, ?_⟩) ?_ ?_
        rotate_left
        ·intro w'
         go_simp
         with_reducible rfl
        rotate_left
        ·simp only [Act.put, sA, sZ, sS, i64_w, i32_w]
         rfl
        refine take_ (i := 3) (N := some 47) (v := ?_) (a' := ?_) (bs 10 127) rfl rfl (take_ofW HT_.out HW_.out (by kernel_rfl)) (fun _ _ _ h => h) (Or.inl ⟨by rfl, ?_⟩) hHeld ?_ ?_
        rotate_left
        ·rintro w' ⟨s0, s1, s2, s3, s4, s5, s6, s7, s8, s9⟩
         go_simp
         with_reducible rfl
        rotate_left
        ·simp only [Act.put, sA, sZ, sS, i64_w, i32_w]
         rfl
        refine take_ (i := 7) (N := some 51) (v := ?_) (a' := ?_) (bs 10 255) rfl rfl (take_ofW HT_.out HW_.out (by kernel_rfl)) (fun _ _ _ h => h) (Or.inl ⟨by rfl, ?_⟩) hHeld ?_ ?_
        rotate_left
        ·rintro w' ⟨s0, s1, s2, s3, s4, s5, s6, s7, s8, s9⟩
         go_simp
         with_reducible rfl
        rotate_left
        ·simp only [Act.put, sA, sZ, sS, i64_w, i32_w]
         rfl
        refine one_ (i := 8) (N := some 52) (bs 10 511) rfl rfl (one_of HT_.out (by kernel_rfl)) (by decide) (fun K hK => ?_)
        refine goes_ Try.func36 (by kernel_rfl) rfl #[.agg #[.string ((rd_T50 l0 x8_2).f0), .int .i64 ((rd_T50 l0 x8_2).f1), .bool ((rd_T50 l0 x8_2).f2), .bool ((rd_T50 l0 x8_2).f3), .bool ((rd_T50 l0 x8_2).f4)], .agg #[.string ((rd_T50 l1 x9_2).f0), .int .i64 ((rd_T50 l1 x9_2).f1), .bool ((rd_T50 l1 x9_2).f2), .bool ((rd_T50 l1 x9_2).f3), .bool ((rd_T50 l1 x9_2).f4)]] (by rfl) rfl rfl (by (try simp only [List.map_toArray, List.map_cons, List.map_nil]); first | done | rfl | (simp only [List.length_drop, List.length_take]; rfl)) ?_
        with_reducible refine (salchowref25_Turn.calls ((rd_T50 l0 x8_2).f0) ((rd_T50 l0 x8_2).f1) ((rd_T50 l0 x8_2).f2) ((rd_T50 l0 x8_2).f3) ((rd_T50 l0 x8_2).f4) ((rd_T50 l1 x9_2).f0) ((rd_T50 l1 x9_2).f1) ((rd_T50 l1 x9_2).f2) ((rd_T50 l1 x9_2).f3) ((rd_T50 l1 x9_2).f4) t302 _ A20.out).mono ?_
        rintro e w42 ⟨rfl, hb⟩
        refine ⟨_, rfl, ?_⟩
        have n0_ := aS (Kd.S_below (by (with_reducible repeat (first | apply Kd.S_alloc | apply Kd.S_drewN | apply Kd.S_drew)); exact HO_6.out) hb)
        have n1_ := aS (Kd.R_below (by exact rel <| HO_7.out) hb)
        have n2_ := aS (below_step (by first | exact bel HB.out | exact HB.out) hb)
        clear HO_6
        clear HO_7
        clear HB
        have HO_6 := n0_
        have HO_7 := n1_
        have HB := n2_
        clear n0_ n1_ n2_
        (try clear hb)
        (try clear hb2)
        (try clear hk)
        (try clear hi)
        refine hK.out _ _ ⟨(hup HB.out hw300_0), (hup HB.out hw300_1), (hup HB.out hw300_2), (hup HB.out hw300_3), (hup HB.out hw300_4), (hup HB.out hw301_0), (hup HB.out hw301_1), (hup HB.out hw301_2), (hup HB.out hw301_3), (hup HB.out hw301_4)⟩ (fun hHeld => ?_)
        clear hK K
        refine norm_ (a' := ?_) ?_ ?_
        rotate_left
        ·show Act.put _ (some 52) _ = _
         simp only [Act.put, sA, sZ, sS, i64_w, i32_w]
         rfl
        refine pure_ (i := 9) (N := some 10) (v := ?_) (a' := ?_) (bs 10 1023) rfl rfl (any_of HT_.out (by kernel_rfl)) (fun _ _ _ h => h) (Or.inl ⟨by rfl, ?_⟩) ?_ ?_
        rotate_left
        ·intro w'
         go_simp
         with_reducible rfl
        rotate_left
        ·simp only [Act.put, sA, sZ, sS, i64_w, i32_w]
         rfl
        refine done_ (done_of HT_.out (by kernel_rfl)) ?_
        try go_wp2
        have n0_ := aS (Kd.S_drew HO_6.out)
        have n1_ := aS (Kd.R_drew HO_7.out)
        have n2_ := aS (below_drew1 HB.out)
        clear HO_6
        clear HO_7
        clear HB
        have HO_6 := n0_
        have HO_7 := n1_
        have HB := n2_
        clear n0_ n1_ n2_
        obtain ⟨Ao44, co44, eo44⟩ := Kd.S_slice HO_6.out
        (first | subst eo44 | (injection eo44 with f1_ f2_ f3_; have f4_ := f1_.symm; have f5_ := f3_.symm; clear f1_ f2_ f3_; subst f4_; subst f5_))
        have p303 : 0 ≤ (x8_2 : Int) := of_decide_eq_true (by first | (with_reducible assumption) | assumption)
        have q303 : x8_2 < (t294.length : Int) := of_decide_eq_true (by first | (with_reducible assumption) | assumption)
        obtain ⟨ad303, A303_0, c303_0, e303, hx303_0, hl303_0, hi303_0⟩ := at_L6 (Kd.S_reads' HO_6.out).2.2 x8_2 p303 q303
        cases e303
        obtain ⟨ce303, hce303, hMe303, hcc303⟩ := Kd.S_get HO_6.out [] x8_2 p303 (by first | exact q303 | exact of_decide_eq_true (by first | (with_reducible assumption) | assumption) | (have e_ := (Kd.S_reads' HO_6.out).1; omega))
        obtain ⟨ve303_0, rfl, ge303_0⟩ := hMe303
        have hv303_0 := hcc303 0 _ rfl
        rw [Nat.add_zero, show ((Kd.slice 3 (Kd.int .i64))).sz = 1 from rfl, Nat.mul_one] at hv303_0
        replace hv303_0 := Option.some.inj (hv303_0.symm.trans hx303_0)
        rw [hv303_0] at ge303_0
        have HL303_0 := aS (show Kd.R (Kd.int .i64) 3 _ _ _ _ (rd_L6 t294 x8_2) from ge303_0)
        clear hv303_0 ge303_0
        clear hcc303 hce303
        have HR303_0 := aS hi303_0
        have HC303_0 := aS hl303_0
        clear hi303_0 hl303_0
        replace p303 := eq_true p303
        replace q303 := eq_true q303
        have p304 : 0 ≤ (x9_2 : Int) := of_decide_eq_true (by first | (with_reducible assumption) | assumption)
        have q304 : x9_2 < ((rd_L6 t294 x8_2).length : Int) := of_decide_eq_true (by first | (with_reducible assumption) | assumption)
        obtain ⟨ad304, e304, hx304_0⟩ := Kd.at_int (by repeat (first | (with_reducible exact HR303_0.out) | (with_reducible apply Kd.C_alloc) | (with_reducible apply Kd.C_drewN) | (with_reducible apply Kd.C_drew) | exact HR303_0.out)) x9_2 p304 q304
        cases e304
        replace p304 := eq_true p304
        replace q304 := eq_true q304
        have p305 : 0 ≤ ((ji23) : Int) := of_decide_eq_true (by first | (with_reducible assumption) | assumption)
        have q305 : (ji23) < (t294.length : Int) := of_decide_eq_true (by first | (with_reducible assumption) | assumption)
        obtain ⟨ad305, A305_0, c305_0, e305, hx305_0, hl305_0, hi305_0⟩ := at_L6 (Kd.S_reads' HO_6.out).2.2 (ji23) p305 q305
        obtain rfl : ad303 = ad305 := (by injection e305)
        obtain ⟨ce305, hce305, hMe305, hcc305⟩ := Kd.S_get HO_6.out [] (ji23) p305 (by first | exact q305 | exact of_decide_eq_true (by first | (with_reducible assumption) | assumption) | (have e_ := (Kd.S_reads' HO_6.out).1; omega))
        obtain ⟨ve305_0, rfl, ge305_0⟩ := hMe305
        have hv305_0 := hcc305 0 _ rfl
        rw [Nat.add_zero, show ((Kd.slice 3 (Kd.int .i64))).sz = 1 from rfl, Nat.mul_one] at hv305_0
        replace hv305_0 := Option.some.inj (hv305_0.symm.trans hx305_0)
        rw [hv305_0] at ge305_0
        have HL305_0 := aS (show Kd.R (Kd.int .i64) 3 _ _ _ _ (rd_L6 t294 (ji23)) from ge305_0)
        clear hv305_0 ge305_0
        clear hcc305 hce305
        have HR305_0 := aS hi305_0
        have HC305_0 := aS hl305_0
        clear hi305_0 hl305_0
        replace p305 := eq_true p305
        replace q305 := eq_true q305
        have p306 : 0 ≤ ((ji26) : Int) := of_decide_eq_true (by first | (with_reducible assumption) | assumption)
        have q306 : (ji26) < ((rd_L6 t294 (ji23)).length : Int) := of_decide_eq_true (by first | (with_reducible assumption) | assumption)
        obtain ⟨ad306, e306, hx306_0⟩ := Kd.at_int (by repeat (first | (with_reducible exact HR305_0.out) | (with_reducible apply Kd.C_alloc) | (with_reducible apply Kd.C_drewN) | (with_reducible apply Kd.C_drew) | exact HR305_0.out)) (ji26) p306 q306
        cases e306
        replace p306 := eq_true p306
        replace q306 := eq_true q306
        refine start_ (n := 20) (S := fun w' => w'.cell? (ad303.add (x8_2).toNat) = some (.slice (some ad304) (rd_L6 t294 x8_2).length c303_0) ∧ w'.cell? (ad304.add (x9_2).toNat) = some (.int .i64 (rd (rd_L6 t294 x8_2) x9_2)) ∧ w'.cell? (ad303.add ((ji23)).toNat) = some (.slice (some ad306) (rd_L6 t294 (ji23)).length c305_0) ∧ w'.cell? (ad306.add ((ji26)).toNat) = some (.int .i64 (rd (rd_L6 t294 (ji23)) (ji26)))) (ds := []) #[false, false, false, false, false, false, false, false, false, false, false, false, false, false, false, false, false, false, false, false] (by kernel_rfl) rfl rfl ⟨hx303_0, hx304_0, hx305_0, hx306_0⟩ (fun hHeld => ?_); refine with_tabW salchowref25_Script.tab9 salchowref25_Script.bits9 (fun HT_ HW_ => ?_)
        generalize w42.drew = w43 at HO_6 HO_7 HB HL303_0 HL305_0 HR303_0 HR305_0 hx303_0 hx304_0 hx305_0 hx306_0 hHeld ⊢
        refine pure_ (i := 0) (N := some 53) (v := ?_) (a' := ?_) (bs 20 1) rfl rfl (any_of HT_.out (by kernel_rfl)) (fun _ _ _ h => h) (Or.inl ⟨by rfl, ?_⟩) ?_ ?_
        rotate_left
        ·intro w'
         go_simp
         with_reducible rfl
        rotate_left
        ·simp only [Act.put, sA, sZ, sS, i64_w, i32_w]
         rfl
        refine pure_ (i := 1) (N := some 54) (v := ?_) (a' := ?_) (bs 20 3) rfl rfl (any_of HT_.out (by kernel_rfl)) (fun _ _ _ h => h) (Or.inl ⟨by rfl, ?_⟩) ?_ ?_
        rotate_left
        ·intro w'
         go_simp
         with_reducible rfl
        rotate_left
        ·simp only [Act.put, sA, sZ, sS, i64_w, i32_w]
         rfl
        refine pure_ (i := 2) (N := some 55) (v := ?_) (a' := ?_) (bs 20 7) rfl rfl (any_of HT_.out (by kernel_rfl)) (fun _ _ _ h => h) (Or.inl ⟨by rfl, ?_⟩) ?_ ?_
        rotate_left
        ·intro w'
         go_simp
         with_reducible rfl
        rotate_left
        ·simp only [Act.put, sA, sZ, sS, i64_w, i32_w]
         rfl
        refine pure_ (i := 4) (N := some 57) (v := ?_) (a' := ?_) (bs 20 23) rfl rfl (any_of HT_.out (by kernel_rfl)) (fun _ _ _ h => h) (Or.inl ⟨by rfl, ?_⟩) ?_ ?_
        rotate_left
        ·intro w'
         go_simp
         with_reducible rfl
        rotate_left
        ·simp only [Act.put, sA, sZ, sS, i64_w, i32_w]
         rfl
        refine pure_ (i := 7) (N := some 60) (v := ?_) (a' := ?_) (bs 20 151) rfl rfl (any_of HT_.out (by kernel_rfl)) (fun _ _ _ h => h) (Or.inl ⟨by rfl, ?_⟩) ?_ ?_
        rotate_left
        ·intro w'
         go_simp
         with_reducible rfl
        rotate_left
        ·simp only [Act.put, sA, sZ, sS, i64_w, i32_w]
         rfl
        refine pure_ (i := 8) (N := some 61) (v := ?_) (a' := ?_) (bs 20 407) rfl rfl (any_of HT_.out (by kernel_rfl)) (fun _ _ _ h => h) (Or.inl ⟨by rfl, ?_⟩) ?_ ?_
        rotate_left
        ·intro w'
         go_simp
         with_reducible rfl
        rotate_left
        ·simp only [Act.put, sA, sZ, sS, i64_w, i32_w]
         rfl
        refine pure_ (i := 9) (N := some 62) (v := ?_) (a' := ?_) (bs 20 919) rfl rfl (any_of HT_.out (by kernel_rfl)) (fun _ _ _ h => h) (Or.inl ⟨by rfl, ?_⟩) ?_ ?_
        rotate_left
        ·intro w'
         go_simp
         with_reducible rfl
        rotate_left
        ·simp only [Act.put, sA, sZ, sS, i64_w, i32_w]
         rfl
        refine pure_ (i := 10) (N := some 63) (v := ?_) (a' := ?_) (bs 20 1943) rfl rfl (any_of HT_.out (by kernel_rfl)) (fun _ _ _ h => h) (Or.inl ⟨by rfl, ?_⟩) ?_ ?_
        rotate_left
        ·intro w'
         go_simp
         with_reducible rfl
        rotate_left
        ·simp only [Act.put, sA, sZ, sS, i64_w, i32_w]
         rfl
        refine pure_ (i := 12) (N := some 65) (v := ?_) (a' := ?_) (bs 20 6039) rfl rfl (any_of HT_.out (by kernel_rfl)) (fun _ _ _ h => h) (Or.inl ⟨by rfl, ?_⟩) ?_ ?_
        rotate_left
        ·intro w'
         go_simp
         with_reducible rfl
        rotate_left
        ·simp only [Act.put, sA, sZ, sS, i64_w, i32_w]
         rfl
        refine pure_ (i := 13) (N := some 66) (v := ?_) (a' := ?_) (bs 20 14231) rfl rfl (any_of HT_.out (by kernel_rfl)) (fun _ _ _ h => h) (Or.inl ⟨by rfl, ?_⟩) ?_ ?_
        rotate_left
        ·intro w'
         go_simp
         with_reducible rfl
        rotate_left
        ·simp only [Act.put, sA, sZ, sS, i64_w, i32_w]
         rfl
        refine pure_ (i := 16) (N := some 69) (v := ?_) (a' := ?_) (bs 20 79767) rfl rfl (any_of HT_.out (by kernel_rfl)) (fun _ _ _ h => h) (Or.inl ⟨by rfl, ?_⟩) ?_ ?_
        rotate_left
        ·intro w'
         go_simp
         with_reducible rfl
        rotate_left
        ·simp only [Act.put, sA, sZ, sS, i64_w, i32_w]
         rfl
        refine take_ (i := 3) (N := some 56) (v := ?_) (a' := ?_) (bs 20 79775) rfl rfl (take_ofW HT_.out HW_.out (by kernel_rfl)) (fun _ _ _ h => h) (Or.inl ⟨by rfl, ?_⟩) hHeld ?_ ?_
        rotate_left
        ·rintro w' ⟨s0, s1, s2, s3⟩
         go_simp
         with_reducible rfl
        rotate_left
        ·simp only [Act.put, sA, sZ, sS, i64_w, i32_w]
         rfl
        refine pure_ (i := 5) (N := some 58) (v := ?_) (a' := ?_) (bs 20 79807) rfl rfl (any_of HT_.out (by kernel_rfl)) (fun _ _ _ h => h) (Or.inl ⟨by rfl, ?_⟩) ?_ ?_
        rotate_left
        ·intro w'
         go_simp
         with_reducible rfl
        rotate_left
        ·simp only [Act.put, sA, sZ, sS, i64_w, i32_w]
         rfl
        refine take_ (i := 6) (N := some 59) (v := ?_) (a' := ?_) (bs 20 79871) rfl rfl (take_ofW HT_.out HW_.out (by kernel_rfl)) (fun _ _ _ h => h) (Or.inl ⟨by rfl, ?_⟩) hHeld ?_ ?_
        rotate_left
        ·rintro w' ⟨s0, s1, s2, s3⟩
         go_simp
         with_reducible rfl
        rotate_left
        ·simp only [Act.put, sA, sZ, sS, i64_w, i32_w]
         rfl
        refine take_ (i := 11) (N := some 64) (v := ?_) (a' := ?_) (bs 20 81919) rfl rfl (take_ofW HT_.out HW_.out (by kernel_rfl)) (fun _ _ _ h => h) (Or.inl ⟨by rfl, ?_⟩) hHeld ?_ ?_
        rotate_left
        ·rintro w' ⟨s0, s1, s2, s3⟩
         go_simp
         with_reducible rfl
        rotate_left
        ·simp only [Act.put, sA, sZ, sS, i64_w, i32_w]
         rfl
        refine pure_ (i := 14) (N := some 67) (v := ?_) (a' := ?_) (bs 20 98303) rfl rfl (any_of HT_.out (by kernel_rfl)) (fun _ _ _ h => h) (Or.inl ⟨by rfl, ?_⟩) ?_ ?_
        rotate_left
        ·intro w'
         go_simp
         with_reducible rfl
        rotate_left
        ·simp only [Act.put, sA, sZ, sS, i64_w, i32_w]
         rfl
        refine take_ (i := 15) (N := some 68) (v := ?_) (a' := ?_) (bs 20 131071) rfl rfl (take_ofW HT_.out HW_.out (by kernel_rfl)) (fun _ _ _ h => h) (Or.inl ⟨by rfl, ?_⟩) hHeld ?_ ?_
        rotate_left
        ·rintro w' ⟨s0, s1, s2, s3⟩
         go_simp
         with_reducible rfl
        rotate_left
        ·simp only [Act.put, sA, sZ, sS, i64_w, i32_w]
         rfl
        refine one_ (i := 17) (N := some 70) (bs 20 262143) rfl rfl (one_of HT_.out (by kernel_rfl)) (by decide) (fun K hK => ?_)
        refine goes_ Try.func31 (by kernel_rfl) rfl #[.int .i64 t302] (by rfl) rfl rfl (by (try simp only [List.map_toArray, List.map_cons, List.map_nil]); first | done | rfl | (simp only [List.length_drop, List.length_take]; rfl)) ?_
        with_reducible refine (salchowref25_Cost.calls kj12 t302 t307 _ A29.out).mono ?_
        rintro e w' ⟨rfl, ⟨nd, rfl⟩⟩
        refine ⟨_, rfl, ?_⟩
        refine hK.out _ _ ⟨hHeld.1, hHeld.2.1, hHeld.2.2.1, hHeld.2.2.2⟩ (fun hHeld => ?_)
        clear hK K
        refine norm_ (a' := ?_) ?_ ?_
        rotate_left
        ·show Act.put _ (some 70) _ = _
         simp only [Act.put, sA, sZ, sS, i64_w, i32_w]
         rfl
        refine pure_ (i := 18) (N := some 71) (v := ?_) (a' := ?_) (bs 20 524287) rfl rfl (any_of HT_.out (by kernel_rfl)) (fun _ _ _ h => h) (Or.inl ⟨by rfl, ?_⟩) ?_ ?_
        rotate_left
        ·intro w'
         go_simp
         with_reducible rfl
        rotate_left
        ·simp only [Act.put, sA, sZ, sS, i64_w, i32_w]
         rfl
        refine pure_ (i := 19) (N := some 72) (v := ?_) (a' := ?_) (bs 20 1048575) rfl rfl (any_of HT_.out (by kernel_rfl)) (fun _ _ _ h => h) (Or.inl ⟨by rfl, ?_⟩) ?_ ?_
        rotate_left
        ·intro w'
         go_simp
         with_reducible rfl
        rotate_left
        ·simp only [Act.put, sA, sZ, sS, i64_w, i32_w]
         rfl
        refine done_ (done_of HT_.out (by kernel_rfl)) ?_
        try go_wp2_with (first | ((with_reducible refine gate_dst (N := 11) rfl ?_); (try (refine gate_guard (by rfl) ?_; dsimp only)); refine box_event ?hg (N := 11) ?hd (cs := #[.int .i64 0, .string (⟨#[]⟩ : ByteArray), .int .i64 0, .bool false, .bool false, .bool false]) (t := 58) ?hr ?_; (case hd => rfl); (case hg => rfl); (case hr => first | (go_simp; done) | (go_simp; rfl)); intro gb308 hg w45 hbox hb; have n0_ := aS (Kd.S_below (by (with_reducible repeat (first | apply Kd.S_alloc | apply Kd.S_drewN | apply Kd.S_drew)); exact HO_6.out) hb); have n1_ := aS (Kd.R_below (Kd.R_elderB (by exact rel <| HO_7.out) gb308 (Nat.le_of_eq hg.symm)) hb); have n2_ := aS (Kd.R_below (by exact rel <| HL303_0.out) hb); have n3_ := aS (Kd.R_below (by exact rel <| HL305_0.out) hb); have n4_ := aS (Kd.C_below (by repeat (first | (with_reducible exact HR303_0.out) | (with_reducible apply Kd.C_alloc) | (with_reducible apply Kd.C_drewN) | (with_reducible apply Kd.C_drew) | exact HR303_0.out)) hb); have n5_ := aS (Kd.C_below (by repeat (first | (with_reducible exact HR305_0.out) | (with_reducible apply Kd.C_alloc) | (with_reducible apply Kd.C_drewN) | (with_reducible apply Kd.C_drew) | exact HR305_0.out)) hb); have n6_ := aS (below_step (by first | exact bel HB.out | exact HB.out) hb); have n7_ := aS (hbox); have n8_ := aS ((by rw [hg]; exact (below_size (by first | exact bel HB.out | exact HB.out)) : w.heap.size ≤ gb308)); have n9_ := aS ((by rw [hg]; exact (below_size (by first | exact bel HB.out | exact HB.out)) : w.heap.size ≤ gb308)); clear HO_6; clear HO_7; clear HL303_0; clear HL305_0; clear HR303_0; clear HR305_0; clear HB; have HO_6 := n0_; have HO_7 := n1_; have HL303_0 := n2_; have HL305_0 := n3_; have HR303_0 := n4_; have HR305_0 := n5_; have HB := n6_; have BK308 := n7_; have GW308 := n8_; have GE308 := n9_; clear n0_ n1_ n2_ n3_ n4_ n5_ n6_ n7_ n8_ n9_; clear hb hbox hg; have hcz46_0 : w45.cell? ⟨gb308, 0, none⟩ = some (.int .i64 0) := (blk_cell BK308.out 0).trans rfl; have hcz46_1 : w45.cell? ⟨gb308, 1, none⟩ = some (.string (⟨#[]⟩ : ByteArray)) := (blk_cell BK308.out 1).trans rfl; have hcz46_2 : w45.cell? ⟨gb308, 2, none⟩ = some (.int .i64 0) := (blk_cell BK308.out 2).trans rfl; have hcz46_3 : w45.cell? ⟨gb308, 3, none⟩ = some (.bool false) := (blk_cell BK308.out 3).trans rfl; have hcz46_4 : w45.cell? ⟨gb308, 4, none⟩ = some (.bool false) := (blk_cell BK308.out 4).trans rfl; have hcz46_5 : w45.cell? ⟨gb308, 5, none⟩ = some (.bool false) := (blk_cell BK308.out 5).trans rfl; have hfz46_0 := blk_frozen BK308.out 0; have hfz46_1 := blk_frozen BK308.out 1; have hfz46_2 := blk_frozen BK308.out 2; have hfz46_3 := blk_frozen BK308.out 3; have hfz46_4 := blk_frozen BK308.out 4; have hfz46_5 := blk_frozen BK308.out 5; have hB6_ : ((((((w45.setCell ⟨gb308, 0, none⟩ (.int .i64 t302)).setCell ⟨gb308, 1, none⟩ (.string (⟨#[]⟩ : ByteArray))).setCell ⟨gb308, 2, none⟩ (.int .i64 0)).setCell ⟨gb308, 3, none⟩ (.bool false)).setCell ⟨gb308, 4, none⟩ (.bool false)).setCell ⟨gb308, 5, none⟩ (.bool false)).heap[gb308]? = some (.cells #[.int .i64 t302, .string (⟨#[]⟩ : ByteArray), .int .i64 0, .bool false, .bool false, .bool false] 58 (0, 0)) := (by refine blk_put (cs := #[.int .i64 t302, .string (⟨#[]⟩ : ByteArray), .int .i64 0, .bool false, .bool false, .bool false]) ?_ 5 _ rfl; refine blk_put (cs := #[.int .i64 t302, .string (⟨#[]⟩ : ByteArray), .int .i64 0, .bool false, .bool false, .bool false]) ?_ 4 _ rfl; refine blk_put (cs := #[.int .i64 t302, .string (⟨#[]⟩ : ByteArray), .int .i64 0, .bool false, .bool false, .bool false]) ?_ 3 _ rfl; refine blk_put (cs := #[.int .i64 t302, .string (⟨#[]⟩ : ByteArray), .int .i64 0, .bool false, .bool false, .bool false]) ?_ 2 _ rfl; refine blk_put (cs := #[.int .i64 t302, .string (⟨#[]⟩ : ByteArray), .int .i64 0, .bool false, .bool false, .bool false]) ?_ 1 _ rfl; refine blk_put (cs := #[.int .i64 0, .string (⟨#[]⟩ : ByteArray), .int .i64 0, .bool false, .bool false, .bool false]) ?_ 0 _ rfl; exact BK308.out); have hcy1_ : ((((((w45.setCell ⟨gb308, 0, none⟩ (.int .i64 t302)).setCell ⟨gb308, 1, none⟩ (.string (⟨#[]⟩ : ByteArray))).setCell ⟨gb308, 2, none⟩ (.int .i64 0)).setCell ⟨gb308, 3, none⟩ (.bool false)).setCell ⟨gb308, 4, none⟩ (.bool false)).setCell ⟨gb308, 5, none⟩ (.bool false)).cell? ⟨gb308, 1, none⟩ = some (.string (⟨#[]⟩ : ByteArray)) := (blk_cell hB6_ 1).trans rfl; have hcy2_ : ((((((w45.setCell ⟨gb308, 0, none⟩ (.int .i64 t302)).setCell ⟨gb308, 1, none⟩ (.string (⟨#[]⟩ : ByteArray))).setCell ⟨gb308, 2, none⟩ (.int .i64 0)).setCell ⟨gb308, 3, none⟩ (.bool false)).setCell ⟨gb308, 4, none⟩ (.bool false)).setCell ⟨gb308, 5, none⟩ (.bool false)).cell? ⟨gb308, 2, none⟩ = some (.int .i64 0) := (blk_cell hB6_ 2).trans rfl; have hcy3_ : ((((((w45.setCell ⟨gb308, 0, none⟩ (.int .i64 t302)).setCell ⟨gb308, 1, none⟩ (.string (⟨#[]⟩ : ByteArray))).setCell ⟨gb308, 2, none⟩ (.int .i64 0)).setCell ⟨gb308, 3, none⟩ (.bool false)).setCell ⟨gb308, 4, none⟩ (.bool false)).setCell ⟨gb308, 5, none⟩ (.bool false)).cell? ⟨gb308, 3, none⟩ = some (.bool false) := (blk_cell hB6_ 3).trans rfl; have hcy4_ : ((((((w45.setCell ⟨gb308, 0, none⟩ (.int .i64 t302)).setCell ⟨gb308, 1, none⟩ (.string (⟨#[]⟩ : ByteArray))).setCell ⟨gb308, 2, none⟩ (.int .i64 0)).setCell ⟨gb308, 3, none⟩ (.bool false)).setCell ⟨gb308, 4, none⟩ (.bool false)).setCell ⟨gb308, 5, none⟩ (.bool false)).cell? ⟨gb308, 4, none⟩ = some (.bool false) := (blk_cell hB6_ 4).trans rfl; have hcy5_ : ((((((w45.setCell ⟨gb308, 0, none⟩ (.int .i64 t302)).setCell ⟨gb308, 1, none⟩ (.string (⟨#[]⟩ : ByteArray))).setCell ⟨gb308, 2, none⟩ (.int .i64 0)).setCell ⟨gb308, 3, none⟩ (.bool false)).setCell ⟨gb308, 4, none⟩ (.bool false)).setCell ⟨gb308, 5, none⟩ (.bool false)).cell? ⟨gb308, 5, none⟩ = some (.bool false) := (blk_cell hB6_ 5).trans rfl; have p312 : 0 ≤ (x9_2 : Int) := of_decide_eq_true (by first | (with_reducible assumption) | assumption); have q312 : x9_2 < (l1.length : Int) := of_decide_eq_true (by first | (with_reducible assumption) | assumption); obtain ⟨ad312, e312, hx312_0, hx312_1, hx312_2, hx312_3, hx312_4⟩ := at_T50 HR1.out x9_2 p312 q312; obtain rfl : ad301 = ad312 := (by injection e312); have hn312_0 : ad301.block ≠ gb308 := Nat.ne_of_lt (Nat.lt_of_lt_of_le (by have := World.block_lt_of_cell? _ _ hx312_0; first | rwa [add_block] at this | exact this) GW308.out); have hn312_1 : ad301.block ≠ gb308 := Nat.ne_of_lt (Nat.lt_of_lt_of_le (by have := World.block_lt_of_cell? _ _ hx312_0; first | rwa [add_block] at this | exact this) GW308.out); have hn312_2 : ad301.block ≠ gb308 := Nat.ne_of_lt (Nat.lt_of_lt_of_le (by have := World.block_lt_of_cell? _ _ hx312_0; first | rwa [add_block] at this | exact this) GW308.out); have hn312_3 : ad301.block ≠ gb308 := Nat.ne_of_lt (Nat.lt_of_lt_of_le (by have := World.block_lt_of_cell? _ _ hx312_0; first | rwa [add_block] at this | exact this) GW308.out); have hn312_4 : ad301.block ≠ gb308 := Nat.ne_of_lt (Nat.lt_of_lt_of_le (by have := World.block_lt_of_cell? _ _ hx312_0; first | rwa [add_block] at this | exact this) GW308.out); have hn312_5 : ad301.block ≠ gb308 := Nat.ne_of_lt (Nat.lt_of_lt_of_le (by have := World.block_lt_of_cell? _ _ hx312_0; first | rwa [add_block] at this | exact this) GW308.out); replace hx312_0 := hup HB.out hx312_0; replace hx312_1 := hup HB.out hx312_1; replace hx312_2 := hup HB.out hx312_2; replace hx312_3 := hup HB.out hx312_3; replace hx312_4 := hup HB.out hx312_4; replace hx312_0 := (cell_far (p := ⟨gb308, 0, none⟩) (by first | (rw [add_block]; exact hn312_0) | (show (Addr.add _ _).block ≠ _; rw [add_block]; exact hn312_0) | exact hn312_0) (.int .i64 t302)).trans hx312_0; replace hx312_1 := (cell_far (p := ⟨gb308, 0, none⟩) (by first | (rw [add_block]; exact hn312_0) | (show (Addr.add _ _).block ≠ _; rw [add_block]; exact hn312_0) | exact hn312_0) (.int .i64 t302)).trans hx312_1; replace hx312_2 := (cell_far (p := ⟨gb308, 0, none⟩) (by first | (rw [add_block]; exact hn312_0) | (show (Addr.add _ _).block ≠ _; rw [add_block]; exact hn312_0) | exact hn312_0) (.int .i64 t302)).trans hx312_2; replace hx312_3 := (cell_far (p := ⟨gb308, 0, none⟩) (by first | (rw [add_block]; exact hn312_0) | (show (Addr.add _ _).block ≠ _; rw [add_block]; exact hn312_0) | exact hn312_0) (.int .i64 t302)).trans hx312_3; replace hx312_4 := (cell_far (p := ⟨gb308, 0, none⟩) (by first | (rw [add_block]; exact hn312_0) | (show (Addr.add _ _).block ≠ _; rw [add_block]; exact hn312_0) | exact hn312_0) (.int .i64 t302)).trans hx312_4; replace hx312_0 := (cell_far (p := ⟨gb308, 1, none⟩) (by first | (rw [add_block]; exact hn312_1) | (show (Addr.add _ _).block ≠ _; rw [add_block]; exact hn312_1) | exact hn312_1) (.string (⟨#[]⟩ : ByteArray))).trans hx312_0; replace hx312_1 := (cell_far (p := ⟨gb308, 1, none⟩) (by first | (rw [add_block]; exact hn312_1) | (show (Addr.add _ _).block ≠ _; rw [add_block]; exact hn312_1) | exact hn312_1) (.string (⟨#[]⟩ : ByteArray))).trans hx312_1; replace hx312_2 := (cell_far (p := ⟨gb308, 1, none⟩) (by first | (rw [add_block]; exact hn312_1) | (show (Addr.add _ _).block ≠ _; rw [add_block]; exact hn312_1) | exact hn312_1) (.string (⟨#[]⟩ : ByteArray))).trans hx312_2; replace hx312_3 := (cell_far (p := ⟨gb308, 1, none⟩) (by first | (rw [add_block]; exact hn312_1) | (show (Addr.add _ _).block ≠ _; rw [add_block]; exact hn312_1) | exact hn312_1) (.string (⟨#[]⟩ : ByteArray))).trans hx312_3; replace hx312_4 := (cell_far (p := ⟨gb308, 1, none⟩) (by first | (rw [add_block]; exact hn312_1) | (show (Addr.add _ _).block ≠ _; rw [add_block]; exact hn312_1) | exact hn312_1) (.string (⟨#[]⟩ : ByteArray))).trans hx312_4; replace hx312_0 := (cell_far (p := ⟨gb308, 2, none⟩) (by first | (rw [add_block]; exact hn312_2) | (show (Addr.add _ _).block ≠ _; rw [add_block]; exact hn312_2) | exact hn312_2) (.int .i64 0)).trans hx312_0; replace hx312_1 := (cell_far (p := ⟨gb308, 2, none⟩) (by first | (rw [add_block]; exact hn312_2) | (show (Addr.add _ _).block ≠ _; rw [add_block]; exact hn312_2) | exact hn312_2) (.int .i64 0)).trans hx312_1; replace hx312_2 := (cell_far (p := ⟨gb308, 2, none⟩) (by first | (rw [add_block]; exact hn312_2) | (show (Addr.add _ _).block ≠ _; rw [add_block]; exact hn312_2) | exact hn312_2) (.int .i64 0)).trans hx312_2; replace hx312_3 := (cell_far (p := ⟨gb308, 2, none⟩) (by first | (rw [add_block]; exact hn312_2) | (show (Addr.add _ _).block ≠ _; rw [add_block]; exact hn312_2) | exact hn312_2) (.int .i64 0)).trans hx312_3; replace hx312_4 := (cell_far (p := ⟨gb308, 2, none⟩) (by first | (rw [add_block]; exact hn312_2) | (show (Addr.add _ _).block ≠ _; rw [add_block]; exact hn312_2) | exact hn312_2) (.int .i64 0)).trans hx312_4; replace hx312_0 := (cell_far (p := ⟨gb308, 3, none⟩) (by first | (rw [add_block]; exact hn312_3) | (show (Addr.add _ _).block ≠ _; rw [add_block]; exact hn312_3) | exact hn312_3) (.bool false)).trans hx312_0; replace hx312_1 := (cell_far (p := ⟨gb308, 3, none⟩) (by first | (rw [add_block]; exact hn312_3) | (show (Addr.add _ _).block ≠ _; rw [add_block]; exact hn312_3) | exact hn312_3) (.bool false)).trans hx312_1; replace hx312_2 := (cell_far (p := ⟨gb308, 3, none⟩) (by first | (rw [add_block]; exact hn312_3) | (show (Addr.add _ _).block ≠ _; rw [add_block]; exact hn312_3) | exact hn312_3) (.bool false)).trans hx312_2; replace hx312_3 := (cell_far (p := ⟨gb308, 3, none⟩) (by first | (rw [add_block]; exact hn312_3) | (show (Addr.add _ _).block ≠ _; rw [add_block]; exact hn312_3) | exact hn312_3) (.bool false)).trans hx312_3; replace hx312_4 := (cell_far (p := ⟨gb308, 3, none⟩) (by first | (rw [add_block]; exact hn312_3) | (show (Addr.add _ _).block ≠ _; rw [add_block]; exact hn312_3) | exact hn312_3) (.bool false)).trans hx312_4; replace hx312_0 := (cell_far (p := ⟨gb308, 4, none⟩) (by first | (rw [add_block]; exact hn312_4) | (show (Addr.add _ _).block ≠ _; rw [add_block]; exact hn312_4) | exact hn312_4) (.bool false)).trans hx312_0; replace hx312_1 := (cell_far (p := ⟨gb308, 4, none⟩) (by first | (rw [add_block]; exact hn312_4) | (show (Addr.add _ _).block ≠ _; rw [add_block]; exact hn312_4) | exact hn312_4) (.bool false)).trans hx312_1; replace hx312_2 := (cell_far (p := ⟨gb308, 4, none⟩) (by first | (rw [add_block]; exact hn312_4) | (show (Addr.add _ _).block ≠ _; rw [add_block]; exact hn312_4) | exact hn312_4) (.bool false)).trans hx312_2; replace hx312_3 := (cell_far (p := ⟨gb308, 4, none⟩) (by first | (rw [add_block]; exact hn312_4) | (show (Addr.add _ _).block ≠ _; rw [add_block]; exact hn312_4) | exact hn312_4) (.bool false)).trans hx312_3; replace hx312_4 := (cell_far (p := ⟨gb308, 4, none⟩) (by first | (rw [add_block]; exact hn312_4) | (show (Addr.add _ _).block ≠ _; rw [add_block]; exact hn312_4) | exact hn312_4) (.bool false)).trans hx312_4; replace hx312_0 := (cell_far (p := ⟨gb308, 5, none⟩) (by first | (rw [add_block]; exact hn312_5) | (show (Addr.add _ _).block ≠ _; rw [add_block]; exact hn312_5) | exact hn312_5) (.bool false)).trans hx312_0; replace hx312_1 := (cell_far (p := ⟨gb308, 5, none⟩) (by first | (rw [add_block]; exact hn312_5) | (show (Addr.add _ _).block ≠ _; rw [add_block]; exact hn312_5) | exact hn312_5) (.bool false)).trans hx312_1; replace hx312_2 := (cell_far (p := ⟨gb308, 5, none⟩) (by first | (rw [add_block]; exact hn312_5) | (show (Addr.add _ _).block ≠ _; rw [add_block]; exact hn312_5) | exact hn312_5) (.bool false)).trans hx312_2; replace hx312_3 := (cell_far (p := ⟨gb308, 5, none⟩) (by first | (rw [add_block]; exact hn312_5) | (show (Addr.add _ _).block ≠ _; rw [add_block]; exact hn312_5) | exact hn312_5) (.bool false)).trans hx312_3; replace hx312_4 := (cell_far (p := ⟨gb308, 5, none⟩) (by first | (rw [add_block]; exact hn312_5) | (show (Addr.add _ _).block ≠ _; rw [add_block]; exact hn312_5) | exact hn312_5) (.bool false)).trans hx312_4; clear hn312_0; clear hn312_1; clear hn312_2; clear hn312_3; clear hn312_4; clear hn312_5; replace p312 := eq_true p312; replace q312 := eq_true q312) | ((with_reducible refine gate_builtin (b := .append) (xs := #[.tmp 82, .tmp 84]) rfl ?_); (try (refine gate_guard (by rfl) ?_; dsimp only)); at_builtin; refine Kd.R_append k58 (w0 := w) w.heap.size rfl (.tmp 82) (.tmp 84) 31 58 (.agg #[(.int .i64 0), (.string ⟨#[]⟩), (.int .i64 0), (.bool false), (.bool false), (.bool false)]) 40 rfl Try.underlying31 info58 rfl (by decide) (by omega) u7 x7_2 (⟨t302, (⟨(rd_T50 l1 x9_2).f0, (rd_T50 l1 x9_2).f1, (rd_T50 l1 x9_2).f2, (rd_T50 l1 x9_2).f3, (rd_T50 l1 x9_2).f4⟩ : S50)⟩ : S58) [.int .i64 t302, .string ((rd_T50 l1 x9_2).f0), .int .i64 ((rd_T50 l1 x9_2).f1), .bool ((rd_T50 l1 x9_2).f2), .bool ((rd_T50 l1 x9_2).f3), .bool ((rd_T50 l1 x9_2).f4)] (fun k_ => k_ ≠ gb308) (fun _ => False) rfl (by first | (go_simp; done) | (go_simp; rfl)) ?aP (fun _ hk => hk.elim) ?aF ?aO ?aB ?aS ?aL ?_; (case aP => exact k58_mkM _ _ _ (⟨t302, (⟨(rd_T50 l1 x9_2).f0, (rd_T50 l1 x9_2).f1, (rd_T50 l1 x9_2).f2, (rd_T50 l1 x9_2).f3, (rd_T50 l1 x9_2).f4⟩ : S50)⟩ : S58)); (case aB => exact (by repeat (first | (with_reducible first | exact HB.out | apply bA | apply bN | apply bD | refine below_set ?_ GE308.out) | exact HB.out))); (case aF => exact (fun k_ hk => Kd.freshB (g := gb308) (o := .cells #[.int .i64 t302, .string ((rd_T50 l1 x9_2).f0), .int .i64 ((rd_T50 l1 x9_2).f1), .bool ((rd_T50 l1 x9_2).f2), .bool ((rd_T50 l1 x9_2).f3), .bool ((rd_T50 l1 x9_2).f4)] 58 (0, 0)) (by (with_reducible repeat (first | refine blk_drewN ?_ _ | refine blk_drew ?_ | refine blk_alloc ?_ _)); refine blk_put (cs := #[.int .i64 t302, .string ((rd_T50 l1 x9_2).f0), .int .i64 ((rd_T50 l1 x9_2).f1), .bool ((rd_T50 l1 x9_2).f2), .bool ((rd_T50 l1 x9_2).f3), .bool false]) ?_ 5 _ rfl; (with_reducible repeat (first | refine blk_drewN ?_ _ | refine blk_drew ?_ | refine blk_alloc ?_ _)); refine blk_put (cs := #[.int .i64 t302, .string ((rd_T50 l1 x9_2).f0), .int .i64 ((rd_T50 l1 x9_2).f1), .bool ((rd_T50 l1 x9_2).f2), .bool false, .bool false]) ?_ 4 _ rfl; (with_reducible repeat (first | refine blk_drewN ?_ _ | refine blk_drew ?_ | refine blk_alloc ?_ _)); refine blk_put (cs := #[.int .i64 t302, .string ((rd_T50 l1 x9_2).f0), .int .i64 ((rd_T50 l1 x9_2).f1), .bool false, .bool false, .bool false]) ?_ 3 _ rfl; (with_reducible repeat (first | refine blk_drewN ?_ _ | refine blk_drew ?_ | refine blk_alloc ?_ _)); refine blk_put (cs := #[.int .i64 t302, .string ((rd_T50 l1 x9_2).f0), .int .i64 0, .bool false, .bool false, .bool false]) ?_ 2 _ rfl; (with_reducible repeat (first | refine blk_drewN ?_ _ | refine blk_drew ?_ | refine blk_alloc ?_ _)); refine blk_put (cs := #[.int .i64 t302, .string (⟨#[]⟩ : ByteArray), .int .i64 0, .bool false, .bool false, .bool false]) ?_ 1 _ rfl; (with_reducible repeat (first | refine blk_drewN ?_ _ | refine blk_drew ?_ | refine blk_alloc ?_ _)); refine blk_put (cs := #[.int .i64 t302, .string (⟨#[]⟩ : ByteArray), .int .i64 0, .bool false, .bool false, .bool false]) ?_ 5 _ rfl; (with_reducible repeat (first | refine blk_drewN ?_ _ | refine blk_drew ?_ | refine blk_alloc ?_ _)); refine blk_put (cs := #[.int .i64 t302, .string (⟨#[]⟩ : ByteArray), .int .i64 0, .bool false, .bool false, .bool false]) ?_ 4 _ rfl; (with_reducible repeat (first | refine blk_drewN ?_ _ | refine blk_drew ?_ | refine blk_alloc ?_ _)); refine blk_put (cs := #[.int .i64 t302, .string (⟨#[]⟩ : ByteArray), .int .i64 0, .bool false, .bool false, .bool false]) ?_ 3 _ rfl; (with_reducible repeat (first | refine blk_drewN ?_ _ | refine blk_drew ?_ | refine blk_alloc ?_ _)); refine blk_put (cs := #[.int .i64 t302, .string (⟨#[]⟩ : ByteArray), .int .i64 0, .bool false, .bool false, .bool false]) ?_ 2 _ rfl; (with_reducible repeat (first | refine blk_drewN ?_ _ | refine blk_drew ?_ | refine blk_alloc ?_ _)); refine blk_put (cs := #[.int .i64 t302, .string (⟨#[]⟩ : ByteArray), .int .i64 0, .bool false, .bool false, .bool false]) ?_ 1 _ rfl; (with_reducible repeat (first | refine blk_drewN ?_ _ | refine blk_drew ?_ | refine blk_alloc ?_ _)); refine blk_put (cs := #[.int .i64 0, .string (⟨#[]⟩ : ByteArray), .int .i64 0, .bool false, .bool false, .bool false]) ?_ 0 _ rfl; (with_reducible repeat (first | refine blk_drewN ?_ _ | refine blk_drew ?_ | refine blk_alloc ?_ _)); exact BK308.out) k_ hk)); (case aO => exact (by exact rel <| Kd.R_mono (Kd.R_far (p := ⟨gb308, 5, none⟩) (Kd.R_far (p := ⟨gb308, 4, none⟩) (Kd.R_far (p := ⟨gb308, 3, none⟩) (Kd.R_far (p := ⟨gb308, 2, none⟩) (Kd.R_far (p := ⟨gb308, 1, none⟩) (Kd.R_far (p := ⟨gb308, 5, none⟩) (Kd.R_far (p := ⟨gb308, 4, none⟩) (Kd.R_far (p := ⟨gb308, 3, none⟩) (Kd.R_far (p := ⟨gb308, 2, none⟩) (Kd.R_far (p := ⟨gb308, 1, none⟩) (Kd.R_far (p := ⟨gb308, 0, none⟩) (Kd.R_mono HO_7.out (fun k_ hk => (⟨hk, hk.2⟩ : _ ∧ k_ ≠ gb308))) (fun _ hk => hk.2) (.int .i64 t302)) (fun _ hk => hk.2) (.string (⟨#[]⟩ : ByteArray))) (fun _ hk => hk.2) (.int .i64 0)) (fun _ hk => hk.2) (.bool false)) (fun _ hk => hk.2) (.bool false)) (fun _ hk => hk.2) (.bool false)) (fun _ hk => hk.2) (.string ((rd_T50 l1 x9_2).f0))) (fun _ hk => hk.2) (.int .i64 ((rd_T50 l1 x9_2).f1))) (fun _ hk => hk.2) (.bool ((rd_T50 l1 x9_2).f2))) (fun _ hk => hk.2) (.bool ((rd_T50 l1 x9_2).f3))) (fun _ hk => hk.2) (.bool ((rd_T50 l1 x9_2).f4))) (fun _ hk => hk.1.2))); (case aS => exact (below_size (by repeat (first | (with_reducible first | exact HB.out | apply bA | apply bN | apply bD | refine below_set ?_ GE308.out) | exact HB.out)))); (case aL => have := LMc40.out; omega); intro v314 w47 ho hb hg hat; rw [← Ny313.out] at ho; have n0_ := aS (Kd.S_over' (by (with_reducible repeat (first | apply Kd.S_alloc | apply Kd.S_drewN | apply Kd.S_drew)); exact (Kd.S_mono (Kd.S_far (p := ⟨gb308, 5, none⟩) (Kd.S_far (p := ⟨gb308, 4, none⟩) (Kd.S_far (p := ⟨gb308, 3, none⟩) (Kd.S_far (p := ⟨gb308, 2, none⟩) (Kd.S_far (p := ⟨gb308, 1, none⟩) (Kd.S_far (p := ⟨gb308, 5, none⟩) (Kd.S_far (p := ⟨gb308, 4, none⟩) (Kd.S_far (p := ⟨gb308, 3, none⟩) (Kd.S_far (p := ⟨gb308, 2, none⟩) (Kd.S_far (p := ⟨gb308, 1, none⟩) (Kd.S_far (p := ⟨gb308, 0, none⟩) (Kd.S_types HO_6.out BK308.out (by decide)) (fun _ hk => hk.2) (.int .i64 t302)) (fun _ hk => hk.2) (.string (⟨#[]⟩ : ByteArray))) (fun _ hk => hk.2) (.int .i64 0)) (fun _ hk => hk.2) (.bool false)) (fun _ hk => hk.2) (.bool false)) (fun _ hk => hk.2) (.bool false)) (fun _ hk => hk.2) (.string ((rd_T50 l1 x9_2).f0))) (fun _ hk => hk.2) (.int .i64 ((rd_T50 l1 x9_2).f1))) (fun _ hk => hk.2) (.bool ((rd_T50 l1 x9_2).f2))) (fun _ hk => hk.2) (.bool ((rd_T50 l1 x9_2).f3))) (fun _ hk => hk.2) (.bool ((rd_T50 l1 x9_2).f4))) (fun _ h_ => h_.1))) (Kd.R_typed (by exact rel <| (Kd.R_mono (Kd.R_far (p := ⟨gb308, 5, none⟩) (Kd.R_far (p := ⟨gb308, 4, none⟩) (Kd.R_far (p := ⟨gb308, 3, none⟩) (Kd.R_far (p := ⟨gb308, 2, none⟩) (Kd.R_far (p := ⟨gb308, 1, none⟩) (Kd.R_far (p := ⟨gb308, 5, none⟩) (Kd.R_far (p := ⟨gb308, 4, none⟩) (Kd.R_far (p := ⟨gb308, 3, none⟩) (Kd.R_far (p := ⟨gb308, 2, none⟩) (Kd.R_far (p := ⟨gb308, 1, none⟩) (Kd.R_far (p := ⟨gb308, 0, none⟩) (Kd.R_mono HO_7.out (fun k_ hk => (⟨hk, hk.2⟩ : _ ∧ k_ ≠ gb308))) (fun _ hk => hk.2) (.int .i64 t302)) (fun _ hk => hk.2) (.string (⟨#[]⟩ : ByteArray))) (fun _ hk => hk.2) (.int .i64 0)) (fun _ hk => hk.2) (.bool false)) (fun _ hk => hk.2) (.bool false)) (fun _ hk => hk.2) (.bool false)) (fun _ hk => hk.2) (.string ((rd_T50 l1 x9_2).f0))) (fun _ hk => hk.2) (.int .i64 ((rd_T50 l1 x9_2).f1))) (fun _ hk => hk.2) (.bool ((rd_T50 l1 x9_2).f2))) (fun _ hk => hk.2) (.bool ((rd_T50 l1 x9_2).f3))) (fun _ hk => hk.2) (.bool ((rd_T50 l1 x9_2).f4))) (fun _ h_ => h_.1)))) (by decide) hg); have n1_ := aS (Kd.R_over' (by exact rel <| (Kd.R_mono (Kd.R_far (p := ⟨gb308, 5, none⟩) (Kd.R_far (p := ⟨gb308, 4, none⟩) (Kd.R_far (p := ⟨gb308, 3, none⟩) (Kd.R_far (p := ⟨gb308, 2, none⟩) (Kd.R_far (p := ⟨gb308, 1, none⟩) (Kd.R_far (p := ⟨gb308, 5, none⟩) (Kd.R_far (p := ⟨gb308, 4, none⟩) (Kd.R_far (p := ⟨gb308, 3, none⟩) (Kd.R_far (p := ⟨gb308, 2, none⟩) (Kd.R_far (p := ⟨gb308, 1, none⟩) (Kd.R_far (p := ⟨gb308, 0, none⟩) (Kd.R_types HL303_0.out BK308.out (by decide)) (fun _ hk => hk.2) (.int .i64 t302)) (fun _ hk => hk.2) (.string (⟨#[]⟩ : ByteArray))) (fun _ hk => hk.2) (.int .i64 0)) (fun _ hk => hk.2) (.bool false)) (fun _ hk => hk.2) (.bool false)) (fun _ hk => hk.2) (.bool false)) (fun _ hk => hk.2) (.string ((rd_T50 l1 x9_2).f0))) (fun _ hk => hk.2) (.int .i64 ((rd_T50 l1 x9_2).f1))) (fun _ hk => hk.2) (.bool ((rd_T50 l1 x9_2).f2))) (fun _ hk => hk.2) (.bool ((rd_T50 l1 x9_2).f3))) (fun _ hk => hk.2) (.bool ((rd_T50 l1 x9_2).f4))) (fun _ h_ => h_.1))) (Kd.R_typed (by exact rel <| (Kd.R_mono (Kd.R_far (p := ⟨gb308, 5, none⟩) (Kd.R_far (p := ⟨gb308, 4, none⟩) (Kd.R_far (p := ⟨gb308, 3, none⟩) (Kd.R_far (p := ⟨gb308, 2, none⟩) (Kd.R_far (p := ⟨gb308, 1, none⟩) (Kd.R_far (p := ⟨gb308, 5, none⟩) (Kd.R_far (p := ⟨gb308, 4, none⟩) (Kd.R_far (p := ⟨gb308, 3, none⟩) (Kd.R_far (p := ⟨gb308, 2, none⟩) (Kd.R_far (p := ⟨gb308, 1, none⟩) (Kd.R_far (p := ⟨gb308, 0, none⟩) (Kd.R_mono HO_7.out (fun k_ hk => (⟨hk, hk.2⟩ : _ ∧ k_ ≠ gb308))) (fun _ hk => hk.2) (.int .i64 t302)) (fun _ hk => hk.2) (.string (⟨#[]⟩ : ByteArray))) (fun _ hk => hk.2) (.int .i64 0)) (fun _ hk => hk.2) (.bool false)) (fun _ hk => hk.2) (.bool false)) (fun _ hk => hk.2) (.bool false)) (fun _ hk => hk.2) (.string ((rd_T50 l1 x9_2).f0))) (fun _ hk => hk.2) (.int .i64 ((rd_T50 l1 x9_2).f1))) (fun _ hk => hk.2) (.bool ((rd_T50 l1 x9_2).f2))) (fun _ hk => hk.2) (.bool ((rd_T50 l1 x9_2).f3))) (fun _ hk => hk.2) (.bool ((rd_T50 l1 x9_2).f4))) (fun _ h_ => h_.1)))) (by decide) hg); have n2_ := aS (Kd.R_over' (by exact rel <| (Kd.R_mono (Kd.R_far (p := ⟨gb308, 5, none⟩) (Kd.R_far (p := ⟨gb308, 4, none⟩) (Kd.R_far (p := ⟨gb308, 3, none⟩) (Kd.R_far (p := ⟨gb308, 2, none⟩) (Kd.R_far (p := ⟨gb308, 1, none⟩) (Kd.R_far (p := ⟨gb308, 5, none⟩) (Kd.R_far (p := ⟨gb308, 4, none⟩) (Kd.R_far (p := ⟨gb308, 3, none⟩) (Kd.R_far (p := ⟨gb308, 2, none⟩) (Kd.R_far (p := ⟨gb308, 1, none⟩) (Kd.R_far (p := ⟨gb308, 0, none⟩) (Kd.R_types HL305_0.out BK308.out (by decide)) (fun _ hk => hk.2) (.int .i64 t302)) (fun _ hk => hk.2) (.string (⟨#[]⟩ : ByteArray))) (fun _ hk => hk.2) (.int .i64 0)) (fun _ hk => hk.2) (.bool false)) (fun _ hk => hk.2) (.bool false)) (fun _ hk => hk.2) (.bool false)) (fun _ hk => hk.2) (.string ((rd_T50 l1 x9_2).f0))) (fun _ hk => hk.2) (.int .i64 ((rd_T50 l1 x9_2).f1))) (fun _ hk => hk.2) (.bool ((rd_T50 l1 x9_2).f2))) (fun _ hk => hk.2) (.bool ((rd_T50 l1 x9_2).f3))) (fun _ hk => hk.2) (.bool ((rd_T50 l1 x9_2).f4))) (fun _ h_ => h_.1))) (Kd.R_typed (by exact rel <| (Kd.R_mono (Kd.R_far (p := ⟨gb308, 5, none⟩) (Kd.R_far (p := ⟨gb308, 4, none⟩) (Kd.R_far (p := ⟨gb308, 3, none⟩) (Kd.R_far (p := ⟨gb308, 2, none⟩) (Kd.R_far (p := ⟨gb308, 1, none⟩) (Kd.R_far (p := ⟨gb308, 5, none⟩) (Kd.R_far (p := ⟨gb308, 4, none⟩) (Kd.R_far (p := ⟨gb308, 3, none⟩) (Kd.R_far (p := ⟨gb308, 2, none⟩) (Kd.R_far (p := ⟨gb308, 1, none⟩) (Kd.R_far (p := ⟨gb308, 0, none⟩) (Kd.R_mono HO_7.out (fun k_ hk => (⟨hk, hk.2⟩ : _ ∧ k_ ≠ gb308))) (fun _ hk => hk.2) (.int .i64 t302)) (fun _ hk => hk.2) (.string (⟨#[]⟩ : ByteArray))) (fun _ hk => hk.2) (.int .i64 0)) (fun _ hk => hk.2) (.bool false)) (fun _ hk => hk.2) (.bool false)) (fun _ hk => hk.2) (.bool false)) (fun _ hk => hk.2) (.string ((rd_T50 l1 x9_2).f0))) (fun _ hk => hk.2) (.int .i64 ((rd_T50 l1 x9_2).f1))) (fun _ hk => hk.2) (.bool ((rd_T50 l1 x9_2).f2))) (fun _ hk => hk.2) (.bool ((rd_T50 l1 x9_2).f3))) (fun _ hk => hk.2) (.bool ((rd_T50 l1 x9_2).f4))) (fun _ h_ => h_.1)))) (by decide) hg); have n3_ := aS (blk_grown (g := gb308) (o := .cells #[.int .i64 t302, .string ((rd_T50 l1 x9_2).f0), .int .i64 ((rd_T50 l1 x9_2).f1), .bool ((rd_T50 l1 x9_2).f2), .bool ((rd_T50 l1 x9_2).f3), .bool ((rd_T50 l1 x9_2).f4)] 58 (0, 0)) (by (with_reducible repeat (first | refine blk_drewN ?_ _ | refine blk_drew ?_ | refine blk_alloc ?_ _)); refine blk_put (cs := #[.int .i64 t302, .string ((rd_T50 l1 x9_2).f0), .int .i64 ((rd_T50 l1 x9_2).f1), .bool ((rd_T50 l1 x9_2).f2), .bool ((rd_T50 l1 x9_2).f3), .bool false]) ?_ 5 _ rfl; (with_reducible repeat (first | refine blk_drewN ?_ _ | refine blk_drew ?_ | refine blk_alloc ?_ _)); refine blk_put (cs := #[.int .i64 t302, .string ((rd_T50 l1 x9_2).f0), .int .i64 ((rd_T50 l1 x9_2).f1), .bool ((rd_T50 l1 x9_2).f2), .bool false, .bool false]) ?_ 4 _ rfl; (with_reducible repeat (first | refine blk_drewN ?_ _ | refine blk_drew ?_ | refine blk_alloc ?_ _)); refine blk_put (cs := #[.int .i64 t302, .string ((rd_T50 l1 x9_2).f0), .int .i64 ((rd_T50 l1 x9_2).f1), .bool false, .bool false, .bool false]) ?_ 3 _ rfl; (with_reducible repeat (first | refine blk_drewN ?_ _ | refine blk_drew ?_ | refine blk_alloc ?_ _)); refine blk_put (cs := #[.int .i64 t302, .string ((rd_T50 l1 x9_2).f0), .int .i64 0, .bool false, .bool false, .bool false]) ?_ 2 _ rfl; (with_reducible repeat (first | refine blk_drewN ?_ _ | refine blk_drew ?_ | refine blk_alloc ?_ _)); refine blk_put (cs := #[.int .i64 t302, .string (⟨#[]⟩ : ByteArray), .int .i64 0, .bool false, .bool false, .bool false]) ?_ 1 _ rfl; (with_reducible repeat (first | refine blk_drewN ?_ _ | refine blk_drew ?_ | refine blk_alloc ?_ _)); refine blk_put (cs := #[.int .i64 t302, .string (⟨#[]⟩ : ByteArray), .int .i64 0, .bool false, .bool false, .bool false]) ?_ 5 _ rfl; (with_reducible repeat (first | refine blk_drewN ?_ _ | refine blk_drew ?_ | refine blk_alloc ?_ _)); refine blk_put (cs := #[.int .i64 t302, .string (⟨#[]⟩ : ByteArray), .int .i64 0, .bool false, .bool false, .bool false]) ?_ 4 _ rfl; (with_reducible repeat (first | refine blk_drewN ?_ _ | refine blk_drew ?_ | refine blk_alloc ?_ _)); refine blk_put (cs := #[.int .i64 t302, .string (⟨#[]⟩ : ByteArray), .int .i64 0, .bool false, .bool false, .bool false]) ?_ 3 _ rfl; (with_reducible repeat (first | refine blk_drewN ?_ _ | refine blk_drew ?_ | refine blk_alloc ?_ _)); refine blk_put (cs := #[.int .i64 t302, .string (⟨#[]⟩ : ByteArray), .int .i64 0, .bool false, .bool false, .bool false]) ?_ 2 _ rfl; (with_reducible repeat (first | refine blk_drewN ?_ _ | refine blk_drew ?_ | refine blk_alloc ?_ _)); refine blk_put (cs := #[.int .i64 t302, .string (⟨#[]⟩ : ByteArray), .int .i64 0, .bool false, .bool false, .bool false]) ?_ 1 _ rfl; (with_reducible repeat (first | refine blk_drewN ?_ _ | refine blk_drew ?_ | refine blk_alloc ?_ _)); refine blk_put (cs := #[.int .i64 0, .string (⟨#[]⟩ : ByteArray), .int .i64 0, .bool false, .bool false, .bool false]) ?_ 0 _ rfl; (with_reducible repeat (first | refine blk_drewN ?_ _ | refine blk_drew ?_ | refine blk_alloc ?_ _)); exact BK308.out) hg (Kd.R_away HO_7.out (fun _ hk => hk.2))); have n4_ := aS (hb); have n5_ := aS (ho); clear HO_6; clear HL303_0; clear HL305_0; clear BK308; clear HB; clear HO_7; have HO_6 := n0_; have HL303_0 := n1_; have HL305_0 := n2_; have BK308 := n3_; have HB := n4_; have HO315 := n5_; clear n0_ n1_ n2_ n3_ n4_ n5_; clear ho hb hg hat))
        go_roundg kj12
        case measure => have := HJ2.out; have := HK2.out; have := HJ9.out; have := HJ12.out; omega
        case rel => exact ⟨(y313), (ji23), (ji26), (by first | rfl | (simp; done) | (simp only [← hji23] <;> (first | rfl | simp)) | (simp [*]; done)), (by first | rfl | (simp; done) | (simp only [← hji26] <;> (first | rfl | simp)) | (simp [*]; done)), H', ⟨by have := HJ2.out; have := HK2.out; have := HJ9.out; have := HJ12.out; omega⟩, ⟨by (with_reducible repeat (first | apply Kd.S_alloc | apply Kd.S_drewN | apply Kd.S_drew)); exact HO_6.out⟩, ⟨by exact rel <| Kd.R_mono HO315.out (fun _ hk => trivial)⟩, ⟨by repeat (first | (with_reducible first | exact HB.out | apply bA | apply bN | apply bD | refine below_set ?_ GE308.out) | exact HB.out)⟩⟩
       rw [if_pos c31] at H
       have c31b0 : (t302 == 1) = true := beq_iff_eq.mpr c31
       have c31b1 : (t302 != 1) = false := bne_eq_false_iff_eq.mpr c31
       clear c31
       by_cases c32 : x7_2.length < 3518437208883
       rotate_left
       ·rw [if_neg c32] at H
        exact absurd H (by simp)
       rw [if_pos c32] at H
       have LMc32 := aS c32
       clear c32
       obtain ⟨y309, hy309⟩ : ∃ y_ : List (S58), y_ = (x7_2 ++ [(⟨t302, (⟨(⟨#[]⟩ : ByteArray), 0, false, false, false⟩ : S50)⟩ : S58)]) := ⟨_, rfl⟩
       replace H : (salchowref25_Script.l0 kj12 l0 l1 t294 y309 ji23 ji26) = some (r1, r2) := by first | (rw [hy309]; with_reducible exact H) | (have H2_ := (Option.bind_some _ _).symm.trans H; rw [hy309]; with_reducible exact H2_) | (have H2_ := (Option.bind_some _ _).symm.trans H; with_reducible exact H2_) | with_reducible exact H | (rw [hy309]; exact H) | exact H
       have Ny309 := aS hy309
       clear hy309
       have H' := aS H
       clear H
       try go_wp2
       have n0_ := aS (Kd.S_drew HO_6.out)
       have n1_ := aS (Kd.R_drew HO_7.out)
       have n2_ := aS (below_drew1 HB.out)
       clear HO_6
       clear HO_7
       clear HB
       have HO_6 := n0_
       have HO_7 := n1_
       have HB := n2_
       clear n0_ n1_ n2_
       have p300 : 0 ≤ (x8_2 : Int) := of_decide_eq_true (by first | (with_reducible assumption) | assumption)
       have q300 : x8_2 < (l0.length : Int) := of_decide_eq_true (by first | (with_reducible assumption) | assumption)
       obtain ⟨ad300, e300, hx300_0, hx300_1, hx300_2, hx300_3, hx300_4⟩ := at_T50 HR0.out x8_2 p300 q300
       have hw300_4 := hx300_4
       have hw300_3 := hx300_3
       have hw300_2 := hx300_2
       have hw300_1 := hx300_1
       have hw300_0 := hx300_0
       cases e300
       replace hx300_0 := hup HB.out hx300_0
       replace hx300_1 := hup HB.out hx300_1
       replace hx300_2 := hup HB.out hx300_2
       replace hx300_3 := hup HB.out hx300_3
       replace hx300_4 := hup HB.out hx300_4
       replace p300 := eq_true p300
       replace q300 := eq_true q300
       have p301 : 0 ≤ (x9_2 : Int) := of_decide_eq_true (by first | (with_reducible assumption) | assumption)
       have q301 : x9_2 < (l1.length : Int) := of_decide_eq_true (by first | (with_reducible assumption) | assumption)
       obtain ⟨ad301, e301, hx301_0, hx301_1, hx301_2, hx301_3, hx301_4⟩ := at_T50 HR1.out x9_2 p301 q301
       have hw301_4 := hx301_4
       have hw301_3 := hx301_3
       have hw301_2 := hx301_2
       have hw301_1 := hx301_1
       have hw301_0 := hx301_0
       cases e301
       replace hx301_0 := hup HB.out hx301_0
       replace hx301_1 := hup HB.out hx301_1
       replace hx301_2 := hup HB.out hx301_2
       replace hx301_3 := hup HB.out hx301_3
       replace hx301_4 := hup HB.out hx301_4
       replace p301 := eq_true p301
       replace q301 := eq_true q301
       refine start_ (n := 10) (S := fun w' => w'.cell? (ad300.add ((x8_2).toNat * 5)) = some (.string ((rd_T50 l0 x8_2).f0)) ∧ w'.cell? ⟨(ad300.add ((x8_2).toNat * 5)).block, (ad300.add ((x8_2).toNat * 5)).off + 1, none⟩ = some (.int .i64 ((rd_T50 l0 x8_2).f1)) ∧ w'.cell? ⟨(ad300.add ((x8_2).toNat * 5)).block, (ad300.add ((x8_2).toNat * 5)).off + 2, none⟩ = some (.bool ((rd_T50 l0 x8_2).f2)) ∧ w'.cell? ⟨(ad300.add ((x8_2).toNat * 5)).block, (ad300.add ((x8_2).toNat * 5)).off + 3, none⟩ = some (.bool ((rd_T50 l0 x8_2).f3)) ∧ w'.cell? ⟨(ad300.add ((x8_2).toNat * 5)).block, (ad300.add ((x8_2).toNat * 5)).off + 4, none⟩ = some (.bool ((rd_T50 l0 x8_2).f4)) ∧ w'.cell? (ad301.add ((x9_2).toNat * 5)) = some (.string ((rd_T50 l1 x9_2).f0)) ∧ w'.cell? ⟨(ad301.add ((x9_2).toNat * 5)).block, (ad301.add ((x9_2).toNat * 5)).off + 1, none⟩ = some (.int .i64 ((rd_T50 l1 x9_2).f1)) ∧ w'.cell? ⟨(ad301.add ((x9_2).toNat * 5)).block, (ad301.add ((x9_2).toNat * 5)).off + 2, none⟩ = some (.bool ((rd_T50 l1 x9_2).f2)) ∧ w'.cell? ⟨(ad301.add ((x9_2).toNat * 5)).block, (ad301.add ((x9_2).toNat * 5)).off + 3, none⟩ = some (.bool ((rd_T50 l1 x9_2).f3)) ∧ w'.cell? ⟨(ad301.add ((x9_2).toNat * 5)).block, (ad301.add ((x9_2).toNat * 5)).off + 4, none⟩ = some (.bool ((rd_T50 l1 x9_2).f4))) (ds := []) #[false, false, false, false, false, false, false, false, false, false] (by kernel_rfl) rfl rfl ⟨(hup HB.out hw300_0), (hup HB.out hw300_1), (hup HB.out hw300_2), (hup HB.out hw300_3), (hup HB.out hw300_4), (hup HB.out hw301_0), (hup HB.out hw301_1), (hup HB.out hw301_2), (hup HB.out hw301_3), (hup HB.out hw301_4)⟩ (fun hHeld => ?_); refine with_tabW salchowref25_Script.tab8 salchowref25_Script.bits8 (fun HT_ HW_ => ?_)
       generalize wc.drew = w33 at HO_6 HO_7 HB hx300_0 hx300_1 hx300_2 hx300_3 hx300_4 hx301_0 hx301_1 hx301_2 hx301_3 hx301_4 hHeld ⊢
       refine pure_ (i := 0) (N := some 44) (v := ?_) (a' := ?_) (bs 10 1) rfl rfl (any_of HT_.out (by kernel_rfl)) (fun _ _ _ h => h) (Or.inl ⟨by rfl, ?_⟩) ?_ ?_
       rotate_left
       ·intro w'
        go_simp
        with_reducible rfl
       rotate_left
       ·simp only [Act.put, sA, sZ, sS, i64_w, i32_w]
        rfl
       refine pure_ (i := 1) (N := some 45) (v := ?_) (a' := ?_) (bs 10 3) rfl rfl (any_of HT_.out (by kernel_rfl)) (fun _ _ _ h => h) (Or.inl ⟨by rfl, ?_⟩) ?_ ?_
       rotate_left
       ·intro w'
        go_simp
        with_reducible rfl
       rotate_left
       ·simp only [Act.put, sA, sZ, sS, i64_w, i32_w]
        rfl
       refine pure_ (i := 2) (N := some 46) (v := ?_) (a' := ?_) (bs 10 7) rfl rfl (any_of HT_.out (by kernel_rfl)) (fun _ _ _ h => h) (Or.inl ⟨by rfl, ?_⟩) ?_ ?_
       rotate_left
       ·intro w'
        go_simp
        with_reducible rfl
       rotate_left
       ·simp only [Act.put, sA, sZ, sS, i64_w, i32_w]
        rfl
       refine pure_ (i := 4) (N := some 48) (v := ?_) (a' := ?_) (bs 10 23) rfl rfl (any_of HT_.out (by kernel_rfl)) (fun _ _ _ h => h) (Or.inl ⟨by rfl, ?_⟩) ?_ ?_
       rotate_left
       ·intro w'
        go_simp
        with_reducible rfl
       rotate_left
       ·simp only [Act.put, sA, sZ, sS, i64_w, i32_w]
        rfl
       refine pure_ (i := 5) (N := some 49) (v := ?_) (a' := ?_) (bs 10 55) rfl rfl (any_of HT_.out (by kernel_rfl)) (fun _ _ _ h => h) (Or.inl ⟨by rfl, ?_⟩) ?_ ?_
       rotate_left
       ·intro w'
        go_simp
        with_reducible rfl
       rotate_left
       ·simp only [Act.put, sA, sZ, sS, i64_w, i32_w]
        rfl
       refine pure_ (i := 6) (N := some 50) (v := ?_) (a' := ?_) (bs 10 119) rfl rfl (any_of HT_.out (by kernel_rfl)) (fun _ _ _ h => h) (Or.inl ⟨by rfl, ?_⟩) ?_ ?_
       rotate_left
       ·intro w'
        go_simp
        with_reducible rfl
       rotate_left
       ·simp only [Act.put, sA, sZ, sS, i64_w, i32_w]
        rfl
       refine take_ (i := 3) (N := some 47) (v := ?_) (a' := ?_) (bs 10 127) rfl rfl (take_ofW HT_.out HW_.out (by kernel_rfl)) (fun _ _ _ h => h) (Or.inl ⟨by rfl, ?_⟩) hHeld ?_ ?_
       rotate_left
       ·rintro w' ⟨s0, s1, s2, s3, s4, s5, s6, s7, s8, s9⟩
        go_simp
        with_reducible rfl
       rotate_left
       ·simp only [Act.put, sA, sZ, sS, i64_w, i32_w]
        rfl
       refine take_ (i := 7) (N := some 51) (v := ?_) (a' := ?_) (bs 10 255) rfl rfl (take_ofW HT_.out HW_.out (by kernel_rfl)) (fun _ _ _ h => h) (Or.inl ⟨by rfl, ?_⟩) hHeld ?_ ?_
       rotate_left
       ·rintro w' ⟨s0, s1, s2, s3, s4, s5, s6, s7, s8, s9⟩
        go_simp
        with_reducible rfl
       rotate_left
       ·simp only [Act.put, sA, sZ, sS, i64_w, i32_w]
        rfl
       refine one_ (i := 8) (N := some 52) (bs 10 511) rfl rfl (one_of HT_.out (by kernel_rfl)) (by decide) (fun K hK => ?_)
       refine goes_ Try.func36 (by kernel_rfl) rfl #[.agg #[.string ((rd_T50 l0 x8_2).f0), .int .i64 ((rd_T50 l0 x8_2).f1), .bool ((rd_T50 l0 x8_2).f2), .bool ((rd_T50 l0 x8_2).f3), .bool ((rd_T50 l0 x8_2).f4)], .agg #[.string ((rd_T50 l1 x9_2).f0), .int .i64 ((rd_T50 l1 x9_2).f1), .bool ((rd_T50 l1 x9_2).f2), .bool ((rd_T50 l1 x9_2).f3), .bool ((rd_T50 l1 x9_2).f4)]] (by rfl) rfl rfl (by (try simp only [List.map_toArray, List.map_cons, List.map_nil]); first | done | rfl | (simp only [List.length_drop, List.length_take]; rfl)) ?_
       with_reducible refine (salchowref25_Turn.calls ((rd_T50 l0 x8_2).f0) ((rd_T50 l0 x8_2).f1) ((rd_T50 l0 x8_2).f2) ((rd_T50 l0 x8_2).f3) ((rd_T50 l0 x8_2).f4) ((rd_T50 l1 x9_2).f0) ((rd_T50 l1 x9_2).f1) ((rd_T50 l1 x9_2).f2) ((rd_T50 l1 x9_2).f3) ((rd_T50 l1 x9_2).f4) t302 _ A20.out).mono ?_
       rintro e w34 ⟨rfl, hb⟩
       refine ⟨_, rfl, ?_⟩
       have n0_ := aS (Kd.S_below (by (with_reducible repeat (first | apply Kd.S_alloc | apply Kd.S_drewN | apply Kd.S_drew)); exact HO_6.out) hb)
       have n1_ := aS (Kd.R_below (by exact rel <| HO_7.out) hb)
       have n2_ := aS (below_step (by first | exact bel HB.out | exact HB.out) hb)
       clear HO_6
       clear HO_7
       clear HB
       have HO_6 := n0_
       have HO_7 := n1_
       have HB := n2_
       clear n0_ n1_ n2_
       (try clear hb)
       (try clear hb2)
       (try clear hk)
       (try clear hi)
       refine hK.out _ _ ⟨(hup HB.out hw300_0), (hup HB.out hw300_1), (hup HB.out hw300_2), (hup HB.out hw300_3), (hup HB.out hw300_4), (hup HB.out hw301_0), (hup HB.out hw301_1), (hup HB.out hw301_2), (hup HB.out hw301_3), (hup HB.out hw301_4)⟩ (fun hHeld => ?_)
       clear hK K
       refine norm_ (a' := ?_) ?_ ?_
       rotate_left
       ·show Act.put _ (some 52) _ = _
        simp only [Act.put, sA, sZ, sS, i64_w, i32_w]
        rfl
       refine pure_ (i := 9) (N := some 10) (v := ?_) (a' := ?_) (bs 10 1023) rfl rfl (any_of HT_.out (by kernel_rfl)) (fun _ _ _ h => h) (Or.inl ⟨by rfl, ?_⟩) ?_ ?_
       rotate_left
       ·intro w'
        go_simp
        with_reducible rfl
       rotate_left
       ·simp only [Act.put, sA, sZ, sS, i64_w, i32_w]
        rfl
       refine done_ (done_of HT_.out (by kernel_rfl)) ?_
       try go_wp2
       have n0_ := aS (Kd.S_drew HO_6.out)
       have n1_ := aS (Kd.R_drew HO_7.out)
       have n2_ := aS (below_drew1 HB.out)
       clear HO_6
       clear HO_7
       clear HB
       have HO_6 := n0_
       have HO_7 := n1_
       have HB := n2_
       clear n0_ n1_ n2_
       obtain ⟨Ao36, co36, eo36⟩ := Kd.S_slice HO_6.out
       (first | subst eo36 | (injection eo36 with f1_ f2_ f3_; have f4_ := f1_.symm; have f5_ := f3_.symm; clear f1_ f2_ f3_; subst f4_; subst f5_))
       have p303 : 0 ≤ (x8_2 : Int) := of_decide_eq_true (by first | (with_reducible assumption) | assumption)
       have q303 : x8_2 < (t294.length : Int) := of_decide_eq_true (by first | (with_reducible assumption) | assumption)
       obtain ⟨ad303, A303_0, c303_0, e303, hx303_0, hl303_0, hi303_0⟩ := at_L6 (Kd.S_reads' HO_6.out).2.2 x8_2 p303 q303
       cases e303
       obtain ⟨ce303, hce303, hMe303, hcc303⟩ := Kd.S_get HO_6.out [] x8_2 p303 (by first | exact q303 | exact of_decide_eq_true (by first | (with_reducible assumption) | assumption) | (have e_ := (Kd.S_reads' HO_6.out).1; omega))
       obtain ⟨ve303_0, rfl, ge303_0⟩ := hMe303
       have hv303_0 := hcc303 0 _ rfl
       rw [Nat.add_zero, show ((Kd.slice 3 (Kd.int .i64))).sz = 1 from rfl, Nat.mul_one] at hv303_0
       replace hv303_0 := Option.some.inj (hv303_0.symm.trans hx303_0)
       rw [hv303_0] at ge303_0
       have HL303_0 := aS (show Kd.R (Kd.int .i64) 3 _ _ _ _ (rd_L6 t294 x8_2) from ge303_0)
       clear hv303_0 ge303_0
       clear hcc303 hce303
       have HR303_0 := aS hi303_0
       have HC303_0 := aS hl303_0
       clear hi303_0 hl303_0
       replace p303 := eq_true p303
       replace q303 := eq_true q303
       have p304 : 0 ≤ (x9_2 : Int) := of_decide_eq_true (by first | (with_reducible assumption) | assumption)
       have q304 : x9_2 < ((rd_L6 t294 x8_2).length : Int) := of_decide_eq_true (by first | (with_reducible assumption) | assumption)
       obtain ⟨ad304, e304, hx304_0⟩ := Kd.at_int (by repeat (first | (with_reducible exact HR303_0.out) | (with_reducible apply Kd.C_alloc) | (with_reducible apply Kd.C_drewN) | (with_reducible apply Kd.C_drew) | exact HR303_0.out)) x9_2 p304 q304
       cases e304
       replace p304 := eq_true p304
       replace q304 := eq_true q304
       have p305 : 0 ≤ ((ji23) : Int) := of_decide_eq_true (by first | (with_reducible assumption) | assumption)
       have q305 : (ji23) < (t294.length : Int) := of_decide_eq_true (by first | (with_reducible assumption) | assumption)
       obtain ⟨ad305, A305_0, c305_0, e305, hx305_0, hl305_0, hi305_0⟩ := at_L6 (Kd.S_reads' HO_6.out).2.2 (ji23) p305 q305
       obtain rfl : ad303 = ad305 := (by injection e305)
       obtain ⟨ce305, hce305, hMe305, hcc305⟩ := Kd.S_get HO_6.out [] (ji23) p305 (by first | exact q305 | exact of_decide_eq_true (by first | (with_reducible assumption) | assumption) | (have e_ := (Kd.S_reads' HO_6.out).1; omega))
       obtain ⟨ve305_0, rfl, ge305_0⟩ := hMe305
       have hv305_0 := hcc305 0 _ rfl
       rw [Nat.add_zero, show ((Kd.slice 3 (Kd.int .i64))).sz = 1 from rfl, Nat.mul_one] at hv305_0
       replace hv305_0 := Option.some.inj (hv305_0.symm.trans hx305_0)
       rw [hv305_0] at ge305_0
       have HL305_0 := aS (show Kd.R (Kd.int .i64) 3 _ _ _ _ (rd_L6 t294 (ji23)) from ge305_0)
       clear hv305_0 ge305_0
       clear hcc305 hce305
       have HR305_0 := aS hi305_0
       have HC305_0 := aS hl305_0
       clear hi305_0 hl305_0
       replace p305 := eq_true p305
       replace q305 := eq_true q305
       have p306 : 0 ≤ ((ji26) : Int) := of_decide_eq_true (by first | (with_reducible assumption) | assumption)
       have q306 : (ji26) < ((rd_L6 t294 (ji23)).length : Int) := of_decide_eq_true (by first | (with_reducible assumption) | assumption)
       obtain ⟨ad306, e306, hx306_0⟩ := Kd.at_int (by repeat (first | (with_reducible exact HR305_0.out) | (with_reducible apply Kd.C_alloc) | (with_reducible apply Kd.C_drewN) | (with_reducible apply Kd.C_drew) | exact HR305_0.out)) (ji26) p306 q306
       cases e306
       replace p306 := eq_true p306
       replace q306 := eq_true q306
       refine start_ (n := 20) (S := fun w' => w'.cell? (ad303.add (x8_2).toNat) = some (.slice (some ad304) (rd_L6 t294 x8_2).length c303_0) ∧ w'.cell? (ad304.add (x9_2).toNat) = some (.int .i64 (rd (rd_L6 t294 x8_2) x9_2)) ∧ w'.cell? (ad303.add ((ji23)).toNat) = some (.slice (some ad306) (rd_L6 t294 (ji23)).length c305_0) ∧ w'.cell? (ad306.add ((ji26)).toNat) = some (.int .i64 (rd (rd_L6 t294 (ji23)) (ji26)))) (ds := []) #[false, false, false, false, false, false, false, false, false, false, false, false, false, false, false, false, false, false, false, false] (by kernel_rfl) rfl rfl ⟨hx303_0, hx304_0, hx305_0, hx306_0⟩ (fun hHeld => ?_); refine with_tabW salchowref25_Script.tab9 salchowref25_Script.bits9 (fun HT_ HW_ => ?_)
       generalize w34.drew = w35 at HO_6 HO_7 HB HL303_0 HL305_0 HR303_0 HR305_0 hx303_0 hx304_0 hx305_0 hx306_0 hHeld ⊢
       refine pure_ (i := 0) (N := some 53) (v := ?_) (a' := ?_) (bs 20 1) rfl rfl (any_of HT_.out (by kernel_rfl)) (fun _ _ _ h => h) (Or.inl ⟨by rfl, ?_⟩) ?_ ?_
       rotate_left
       ·intro w'
        go_simp
        with_reducible rfl
       rotate_left
       ·simp only [Act.put, sA, sZ, sS, i64_w, i32_w]
        rfl
       refine pure_ (i := 1) (N := some 54) (v := ?_) (a' := ?_) (bs 20 3) rfl rfl (any_of HT_.out (by kernel_rfl)) (fun _ _ _ h => h) (Or.inl ⟨by rfl, ?_⟩) ?_ ?_
       rotate_left
       ·intro w'
        go_simp
        with_reducible rfl
       rotate_left
       ·simp only [Act.put, sA, sZ, sS, i64_w, i32_w]
        rfl
       refine pure_ (i := 2) (N := some 55) (v := ?_) (a' := ?_) (bs 20 7) rfl rfl (any_of HT_.out (by kernel_rfl)) (fun _ _ _ h => h) (Or.inl ⟨by rfl, ?_⟩) ?_ ?_
       rotate_left
       ·intro w'
        go_simp
        with_reducible rfl
       rotate_left
       ·simp only [Act.put, sA, sZ, sS, i64_w, i32_w]
        rfl
       refine pure_ (i := 4) (N := some 57) (v := ?_) (a' := ?_) (bs 20 23) rfl rfl (any_of HT_.out (by kernel_rfl)) (fun _ _ _ h => h) (Or.inl ⟨by rfl, ?_⟩) ?_ ?_
       rotate_left
       ·intro w'
        go_simp
        with_reducible rfl
       rotate_left
       ·simp only [Act.put, sA, sZ, sS, i64_w, i32_w]
        rfl
       refine pure_ (i := 7) (N := some 60) (v := ?_) (a' := ?_) (bs 20 151) rfl rfl (any_of HT_.out (by kernel_rfl)) (fun _ _ _ h => h) (Or.inl ⟨by rfl, ?_⟩) ?_ ?_
       rotate_left
       ·intro w'
        go_simp
        with_reducible rfl
       rotate_left
       ·simp only [Act.put, sA, sZ, sS, i64_w, i32_w]
        rfl
       refine pure_ (i := 8) (N := some 61) (v := ?_) (a' := ?_) (bs 20 407) rfl rfl (any_of HT_.out (by kernel_rfl)) (fun _ _ _ h => h) (Or.inl ⟨by rfl, ?_⟩) ?_ ?_
       rotate_left
       ·intro w'
        go_simp
        with_reducible rfl
       rotate_left
       ·simp only [Act.put, sA, sZ, sS, i64_w, i32_w]
        rfl
       refine pure_ (i := 9) (N := some 62) (v := ?_) (a' := ?_) (bs 20 919) rfl rfl (any_of HT_.out (by kernel_rfl)) (fun _ _ _ h => h) (Or.inl ⟨by rfl, ?_⟩) ?_ ?_
       rotate_left
       ·intro w'
        go_simp
        with_reducible rfl
       rotate_left
       ·simp only [Act.put, sA, sZ, sS, i64_w, i32_w]
        rfl
       refine pure_ (i := 10) (N := some 63) (v := ?_) (a' := ?_) (bs 20 1943) rfl rfl (any_of HT_.out (by kernel_rfl)) (fun _ _ _ h => h) (Or.inl ⟨by rfl, ?_⟩) ?_ ?_
       rotate_left
       ·intro w'
        go_simp
        with_reducible rfl
       rotate_left
       ·simp only [Act.put, sA, sZ, sS, i64_w, i32_w]
        rfl
       refine pure_ (i := 12) (N := some 65) (v := ?_) (a' := ?_) (bs 20 6039) rfl rfl (any_of HT_.out (by kernel_rfl)) (fun _ _ _ h => h) (Or.inl ⟨by rfl, ?_⟩) ?_ ?_
       rotate_left
       ·intro w'
        go_simp
        with_reducible rfl
       rotate_left
       ·simp only [Act.put, sA, sZ, sS, i64_w, i32_w]
        rfl
       refine pure_ (i := 13) (N := some 66) (v := ?_) (a' := ?_) (bs 20 14231) rfl rfl (any_of HT_.out (by kernel_rfl)) (fun _ _ _ h => h) (Or.inl ⟨by rfl, ?_⟩) ?_ ?_
       rotate_left
       ·intro w'
        go_simp
        with_reducible rfl
       rotate_left
       ·simp only [Act.put, sA, sZ, sS, i64_w, i32_w]
        rfl
       refine pure_ (i := 16) (N := some 69) (v := ?_) (a' := ?_) (bs 20 79767) rfl rfl (any_of HT_.out (by kernel_rfl)) (fun _ _ _ h => h) (Or.inl ⟨by rfl, ?_⟩) ?_ ?_
       rotate_left
       ·intro w'
        go_simp
        with_reducible rfl
       rotate_left
       ·simp only [Act.put, sA, sZ, sS, i64_w, i32_w]
        rfl
       refine take_ (i := 3) (N := some 56) (v := ?_) (a' := ?_) (bs 20 79775) rfl rfl (take_ofW HT_.out HW_.out (by kernel_rfl)) (fun _ _ _ h => h) (Or.inl ⟨by rfl, ?_⟩) hHeld ?_ ?_
       rotate_left
       ·rintro w' ⟨s0, s1, s2, s3⟩
        go_simp
        with_reducible rfl
       rotate_left
       ·simp only [Act.put, sA, sZ, sS, i64_w, i32_w]
        rfl
       refine pure_ (i := 5) (N := some 58) (v := ?_) (a' := ?_) (bs 20 79807) rfl rfl (any_of HT_.out (by kernel_rfl)) (fun _ _ _ h => h) (Or.inl ⟨by rfl, ?_⟩) ?_ ?_
       rotate_left
       ·intro w'
        go_simp
        with_reducible rfl
       rotate_left
       ·simp only [Act.put, sA, sZ, sS, i64_w, i32_w]
        rfl
       refine take_ (i := 6) (N := some 59) (v := ?_) (a' := ?_) (bs 20 79871) rfl rfl (take_ofW HT_.out HW_.out (by kernel_rfl)) (fun _ _ _ h => h) (Or.inl ⟨by rfl, ?_⟩) hHeld ?_ ?_
       rotate_left
       ·rintro w' ⟨s0, s1, s2, s3⟩
        go_simp
        with_reducible rfl
       rotate_left
       ·simp only [Act.put, sA, sZ, sS, i64_w, i32_w]
        rfl
       refine take_ (i := 11) (N := some 64) (v := ?_) (a' := ?_) (bs 20 81919) rfl rfl (take_ofW HT_.out HW_.out (by kernel_rfl)) (fun _ _ _ h => h) (Or.inl ⟨by rfl, ?_⟩) hHeld ?_ ?_
       rotate_left
       ·rintro w' ⟨s0, s1, s2, s3⟩
        go_simp
        with_reducible rfl
       rotate_left
       ·simp only [Act.put, sA, sZ, sS, i64_w, i32_w]
        rfl
       refine pure_ (i := 14) (N := some 67) (v := ?_) (a' := ?_) (bs 20 98303) rfl rfl (any_of HT_.out (by kernel_rfl)) (fun _ _ _ h => h) (Or.inl ⟨by rfl, ?_⟩) ?_ ?_
       rotate_left
       ·intro w'
        go_simp
        with_reducible rfl
       rotate_left
       ·simp only [Act.put, sA, sZ, sS, i64_w, i32_w]
        rfl
       refine take_ (i := 15) (N := some 68) (v := ?_) (a' := ?_) (bs 20 131071) rfl rfl (take_ofW HT_.out HW_.out (by kernel_rfl)) (fun _ _ _ h => h) (Or.inl ⟨by rfl, ?_⟩) hHeld ?_ ?_
       rotate_left
       ·rintro w' ⟨s0, s1, s2, s3⟩
        go_simp
        with_reducible rfl
       rotate_left
       ·simp only [Act.put, sA, sZ, sS, i64_w, i32_w]
        rfl
       refine one_ (i := 17) (N := some 70) (bs 20 262143) rfl rfl (one_of HT_.out (by kernel_rfl)) (by decide) (fun K hK => ?_)
       refine goes_ Try.func31 (by kernel_rfl) rfl #[.int .i64 t302] (by rfl) rfl rfl (by (try simp only [List.map_toArray, List.map_cons, List.map_nil]); first | done | rfl | (simp only [List.length_drop, List.length_take]; rfl)) ?_
       with_reducible refine (salchowref25_Cost.calls kj12 t302 t307 _ A29.out).mono ?_
       rintro e w' ⟨rfl, ⟨nd, rfl⟩⟩
       refine ⟨_, rfl, ?_⟩
       refine hK.out _ _ ⟨hHeld.1, hHeld.2.1, hHeld.2.2.1, hHeld.2.2.2⟩ (fun hHeld => ?_)
       clear hK K
       refine norm_ (a' := ?_) ?_ ?_
       rotate_left
       ·show Act.put _ (some 70) _ = _
        simp only [Act.put, sA, sZ, sS, i64_w, i32_w]
        rfl
       refine pure_ (i := 18) (N := some 71) (v := ?_) (a' := ?_) (bs 20 524287) rfl rfl (any_of HT_.out (by kernel_rfl)) (fun _ _ _ h => h) (Or.inl ⟨by rfl, ?_⟩) ?_ ?_
       rotate_left
       ·intro w'
        go_simp
        with_reducible rfl
       rotate_left
       ·simp only [Act.put, sA, sZ, sS, i64_w, i32_w]
        rfl
       refine pure_ (i := 19) (N := some 72) (v := ?_) (a' := ?_) (bs 20 1048575) rfl rfl (any_of HT_.out (by kernel_rfl)) (fun _ _ _ h => h) (Or.inl ⟨by rfl, ?_⟩) ?_ ?_
       rotate_left
       ·intro w'
        go_simp
        with_reducible rfl
       rotate_left
       ·simp only [Act.put, sA, sZ, sS, i64_w, i32_w]
        rfl
       refine done_ (done_of HT_.out (by kernel_rfl)) ?_
       try go_wp2_with (first | ((with_reducible refine gate_dst (N := 11) rfl ?_); (try (refine gate_guard (by rfl) ?_; dsimp only)); refine box_event ?hg (N := 11) ?hd (cs := #[.int .i64 0, .string (⟨#[]⟩ : ByteArray), .int .i64 0, .bool false, .bool false, .bool false]) (t := 58) ?hr ?_; (case hd => rfl); (case hg => rfl); (case hr => first | (go_simp; done) | (go_simp; rfl)); intro gb308 hg w37 hbox hb; have n0_ := aS (Kd.S_below (by (with_reducible repeat (first | apply Kd.S_alloc | apply Kd.S_drewN | apply Kd.S_drew)); exact HO_6.out) hb); have n1_ := aS (Kd.R_below (Kd.R_elderB (by exact rel <| HO_7.out) gb308 (Nat.le_of_eq hg.symm)) hb); have n2_ := aS (Kd.R_below (by exact rel <| HL303_0.out) hb); have n3_ := aS (Kd.R_below (by exact rel <| HL305_0.out) hb); have n4_ := aS (Kd.C_below (by repeat (first | (with_reducible exact HR303_0.out) | (with_reducible apply Kd.C_alloc) | (with_reducible apply Kd.C_drewN) | (with_reducible apply Kd.C_drew) | exact HR303_0.out)) hb); have n5_ := aS (Kd.C_below (by repeat (first | (with_reducible exact HR305_0.out) | (with_reducible apply Kd.C_alloc) | (with_reducible apply Kd.C_drewN) | (with_reducible apply Kd.C_drew) | exact HR305_0.out)) hb); have n6_ := aS (below_step (by first | exact bel HB.out | exact HB.out) hb); have n7_ := aS (hbox); have n8_ := aS ((by rw [hg]; exact (below_size (by first | exact bel HB.out | exact HB.out)) : w.heap.size ≤ gb308)); have n9_ := aS ((by rw [hg]; exact (below_size (by first | exact bel HB.out | exact HB.out)) : w.heap.size ≤ gb308)); clear HO_6; clear HO_7; clear HL303_0; clear HL305_0; clear HR303_0; clear HR305_0; clear HB; have HO_6 := n0_; have HO_7 := n1_; have HL303_0 := n2_; have HL305_0 := n3_; have HR303_0 := n4_; have HR305_0 := n5_; have HB := n6_; have BK308 := n7_; have GW308 := n8_; have GE308 := n9_; clear n0_ n1_ n2_ n3_ n4_ n5_ n6_ n7_ n8_ n9_; clear hb hbox hg; have hcz38_0 : w37.cell? ⟨gb308, 0, none⟩ = some (.int .i64 0) := (blk_cell BK308.out 0).trans rfl; have hcz38_1 : w37.cell? ⟨gb308, 1, none⟩ = some (.string (⟨#[]⟩ : ByteArray)) := (blk_cell BK308.out 1).trans rfl; have hcz38_2 : w37.cell? ⟨gb308, 2, none⟩ = some (.int .i64 0) := (blk_cell BK308.out 2).trans rfl; have hcz38_3 : w37.cell? ⟨gb308, 3, none⟩ = some (.bool false) := (blk_cell BK308.out 3).trans rfl; have hcz38_4 : w37.cell? ⟨gb308, 4, none⟩ = some (.bool false) := (blk_cell BK308.out 4).trans rfl; have hcz38_5 : w37.cell? ⟨gb308, 5, none⟩ = some (.bool false) := (blk_cell BK308.out 5).trans rfl; have hfz38_0 := blk_frozen BK308.out 0; have hfz38_1 := blk_frozen BK308.out 1; have hfz38_2 := blk_frozen BK308.out 2; have hfz38_3 := blk_frozen BK308.out 3; have hfz38_4 := blk_frozen BK308.out 4; have hfz38_5 := blk_frozen BK308.out 5) | ((with_reducible refine gate_builtin (b := .append) (xs := #[.tmp 82, .tmp 84]) rfl ?_); (try (refine gate_guard (by rfl) ?_; dsimp only)); at_builtin; refine Kd.R_append k58 (w0 := w) w.heap.size rfl (.tmp 82) (.tmp 84) 31 58 (.agg #[(.int .i64 0), (.string ⟨#[]⟩), (.int .i64 0), (.bool false), (.bool false), (.bool false)]) 40 rfl Try.underlying31 info58 rfl (by decide) (by omega) u7 x7_2 (⟨t302, (⟨(⟨#[]⟩ : ByteArray), 0, false, false, false⟩ : S50)⟩ : S58) [.int .i64 t302, .string (⟨#[]⟩ : ByteArray), .int .i64 0, .bool false, .bool false, .bool false] (fun k_ => k_ ≠ gb308) (fun _ => False) rfl (by first | (go_simp; done) | (go_simp; rfl)) ?aP (fun _ hk => hk.elim) ?aF ?aO ?aB ?aS ?aL ?_; (case aP => exact k58_mkM _ _ _ (⟨t302, (⟨(⟨#[]⟩ : ByteArray), 0, false, false, false⟩ : S50)⟩ : S58)); (case aB => exact (by repeat (first | (with_reducible first | exact HB.out | apply bA | apply bN | apply bD | refine below_set ?_ GE308.out) | exact HB.out))); (case aF => exact (fun k_ hk => Kd.freshB (g := gb308) (o := .cells #[.int .i64 t302, .string (⟨#[]⟩ : ByteArray), .int .i64 0, .bool false, .bool false, .bool false] 58 (0, 0)) (by (with_reducible repeat (first | refine blk_drewN ?_ _ | refine blk_drew ?_ | refine blk_alloc ?_ _)); refine blk_put (cs := #[.int .i64 t302, .string (⟨#[]⟩ : ByteArray), .int .i64 0, .bool false, .bool false, .bool false]) ?_ 5 _ rfl; (with_reducible repeat (first | refine blk_drewN ?_ _ | refine blk_drew ?_ | refine blk_alloc ?_ _)); refine blk_put (cs := #[.int .i64 t302, .string (⟨#[]⟩ : ByteArray), .int .i64 0, .bool false, .bool false, .bool false]) ?_ 4 _ rfl; (with_reducible repeat (first | refine blk_drewN ?_ _ | refine blk_drew ?_ | refine blk_alloc ?_ _)); refine blk_put (cs := #[.int .i64 t302, .string (⟨#[]⟩ : ByteArray), .int .i64 0, .bool false, .bool false, .bool false]) ?_ 3 _ rfl; (with_reducible repeat (first | refine blk_drewN ?_ _ | refine blk_drew ?_ | refine blk_alloc ?_ _)); refine blk_put (cs := #[.int .i64 t302, .string (⟨#[]⟩ : ByteArray), .int .i64 0, .bool false, .bool false, .bool false]) ?_ 2 _ rfl; (with_reducible repeat (first | refine blk_drewN ?_ _ | refine blk_drew ?_ | refine blk_alloc ?_ _)); refine blk_put (cs := #[.int .i64 t302, .string (⟨#[]⟩ : ByteArray), .int .i64 0, .bool false, .bool false, .bool false]) ?_ 1 _ rfl; (with_reducible repeat (first | refine blk_drewN ?_ _ | refine blk_drew ?_ | refine blk_alloc ?_ _)); refine blk_put (cs := #[.int .i64 0, .string (⟨#[]⟩ : ByteArray), .int .i64 0, .bool false, .bool false, .bool false]) ?_ 0 _ rfl; (with_reducible repeat (first | refine blk_drewN ?_ _ | refine blk_drew ?_ | refine blk_alloc ?_ _)); exact BK308.out) k_ hk)); (case aO => exact (by exact rel <| Kd.R_mono (Kd.R_far (p := ⟨gb308, 5, none⟩) (Kd.R_far (p := ⟨gb308, 4, none⟩) (Kd.R_far (p := ⟨gb308, 3, none⟩) (Kd.R_far (p := ⟨gb308, 2, none⟩) (Kd.R_far (p := ⟨gb308, 1, none⟩) (Kd.R_far (p := ⟨gb308, 0, none⟩) (Kd.R_mono HO_7.out (fun k_ hk => (⟨hk, hk.2⟩ : _ ∧ k_ ≠ gb308))) (fun _ hk => hk.2) (.int .i64 t302)) (fun _ hk => hk.2) (.string (⟨#[]⟩ : ByteArray))) (fun _ hk => hk.2) (.int .i64 0)) (fun _ hk => hk.2) (.bool false)) (fun _ hk => hk.2) (.bool false)) (fun _ hk => hk.2) (.bool false)) (fun _ hk => hk.1.2))); (case aS => exact (below_size (by repeat (first | (with_reducible first | exact HB.out | apply bA | apply bN | apply bD | refine below_set ?_ GE308.out) | exact HB.out)))); (case aL => have := LMc32.out; omega); intro v310 w39 ho hb hg hat; rw [← Ny309.out] at ho; have n0_ := aS (Kd.S_over' (by (with_reducible repeat (first | apply Kd.S_alloc | apply Kd.S_drewN | apply Kd.S_drew)); exact (Kd.S_mono (Kd.S_far (p := ⟨gb308, 5, none⟩) (Kd.S_far (p := ⟨gb308, 4, none⟩) (Kd.S_far (p := ⟨gb308, 3, none⟩) (Kd.S_far (p := ⟨gb308, 2, none⟩) (Kd.S_far (p := ⟨gb308, 1, none⟩) (Kd.S_far (p := ⟨gb308, 0, none⟩) (Kd.S_types HO_6.out BK308.out (by decide)) (fun _ hk => hk.2) (.int .i64 t302)) (fun _ hk => hk.2) (.string (⟨#[]⟩ : ByteArray))) (fun _ hk => hk.2) (.int .i64 0)) (fun _ hk => hk.2) (.bool false)) (fun _ hk => hk.2) (.bool false)) (fun _ hk => hk.2) (.bool false)) (fun _ h_ => h_.1))) (Kd.R_typed (by exact rel <| (Kd.R_mono (Kd.R_far (p := ⟨gb308, 5, none⟩) (Kd.R_far (p := ⟨gb308, 4, none⟩) (Kd.R_far (p := ⟨gb308, 3, none⟩) (Kd.R_far (p := ⟨gb308, 2, none⟩) (Kd.R_far (p := ⟨gb308, 1, none⟩) (Kd.R_far (p := ⟨gb308, 0, none⟩) (Kd.R_mono HO_7.out (fun k_ hk => (⟨hk, hk.2⟩ : _ ∧ k_ ≠ gb308))) (fun _ hk => hk.2) (.int .i64 t302)) (fun _ hk => hk.2) (.string (⟨#[]⟩ : ByteArray))) (fun _ hk => hk.2) (.int .i64 0)) (fun _ hk => hk.2) (.bool false)) (fun _ hk => hk.2) (.bool false)) (fun _ hk => hk.2) (.bool false)) (fun _ h_ => h_.1)))) (by decide) hg); have n1_ := aS (Kd.R_over' (by exact rel <| (Kd.R_mono (Kd.R_far (p := ⟨gb308, 5, none⟩) (Kd.R_far (p := ⟨gb308, 4, none⟩) (Kd.R_far (p := ⟨gb308, 3, none⟩) (Kd.R_far (p := ⟨gb308, 2, none⟩) (Kd.R_far (p := ⟨gb308, 1, none⟩) (Kd.R_far (p := ⟨gb308, 0, none⟩) (Kd.R_types HL303_0.out BK308.out (by decide)) (fun _ hk => hk.2) (.int .i64 t302)) (fun _ hk => hk.2) (.string (⟨#[]⟩ : ByteArray))) (fun _ hk => hk.2) (.int .i64 0)) (fun _ hk => hk.2) (.bool false)) (fun _ hk => hk.2) (.bool false)) (fun _ hk => hk.2) (.bool false)) (fun _ h_ => h_.1))) (Kd.R_typed (by exact rel <| (Kd.R_mono (Kd.R_far (p := ⟨gb308, 5, none⟩) (Kd.R_far (p := ⟨gb308, 4, none⟩) (Kd.R_far (p := ⟨gb308, 3, none⟩) (Kd.R_far (p := ⟨gb308, 2, none⟩) (Kd.R_far (p := ⟨gb308, 1, none⟩) (Kd.R_far (p := ⟨gb308, 0, none⟩) (Kd.R_mono HO_7.out (fun k_ hk => (⟨hk, hk.2⟩ : _ ∧ k_ ≠ gb308))) (fun _ hk => hk.2) (.int .i64 t302)) (fun _ hk => hk.2) (.string (⟨#[]⟩ : ByteArray))) (fun _ hk => hk.2) (.int .i64 0)) (fun _ hk => hk.2) (.bool false)) (fun _ hk => hk.2) (.bool false)) (fun _ hk => hk.2) (.bool false)) (fun _ h_ => h_.1)))) (by decide) hg); have n2_ := aS (Kd.R_over' (by exact rel <| (Kd.R_mono (Kd.R_far (p := ⟨gb308, 5, none⟩) (Kd.R_far (p := ⟨gb308, 4, none⟩) (Kd.R_far (p := ⟨gb308, 3, none⟩) (Kd.R_far (p := ⟨gb308, 2, none⟩) (Kd.R_far (p := ⟨gb308, 1, none⟩) (Kd.R_far (p := ⟨gb308, 0, none⟩) (Kd.R_types HL305_0.out BK308.out (by decide)) (fun _ hk => hk.2) (.int .i64 t302)) (fun _ hk => hk.2) (.string (⟨#[]⟩ : ByteArray))) (fun _ hk => hk.2) (.int .i64 0)) (fun _ hk => hk.2) (.bool false)) (fun _ hk => hk.2) (.bool false)) (fun _ hk => hk.2) (.bool false)) (fun _ h_ => h_.1))) (Kd.R_typed (by exact rel <| (Kd.R_mono (Kd.R_far (p := ⟨gb308, 5, none⟩) (Kd.R_far (p := ⟨gb308, 4, none⟩) (Kd.R_far (p := ⟨gb308, 3, none⟩) (Kd.R_far (p := ⟨gb308, 2, none⟩) (Kd.R_far (p := ⟨gb308, 1, none⟩) (Kd.R_far (p := ⟨gb308, 0, none⟩) (Kd.R_mono HO_7.out (fun k_ hk => (⟨hk, hk.2⟩ : _ ∧ k_ ≠ gb308))) (fun _ hk => hk.2) (.int .i64 t302)) (fun _ hk => hk.2) (.string (⟨#[]⟩ : ByteArray))) (fun _ hk => hk.2) (.int .i64 0)) (fun _ hk => hk.2) (.bool false)) (fun _ hk => hk.2) (.bool false)) (fun _ hk => hk.2) (.bool false)) (fun _ h_ => h_.1)))) (by decide) hg); have n3_ := aS (blk_grown (g := gb308) (o := .cells #[.int .i64 t302, .string (⟨#[]⟩ : ByteArray), .int .i64 0, .bool false, .bool false, .bool false] 58 (0, 0)) (by (with_reducible repeat (first | refine blk_drewN ?_ _ | refine blk_drew ?_ | refine blk_alloc ?_ _)); refine blk_put (cs := #[.int .i64 t302, .string (⟨#[]⟩ : ByteArray), .int .i64 0, .bool false, .bool false, .bool false]) ?_ 5 _ rfl; (with_reducible repeat (first | refine blk_drewN ?_ _ | refine blk_drew ?_ | refine blk_alloc ?_ _)); refine blk_put (cs := #[.int .i64 t302, .string (⟨#[]⟩ : ByteArray), .int .i64 0, .bool false, .bool false, .bool false]) ?_ 4 _ rfl; (with_reducible repeat (first | refine blk_drewN ?_ _ | refine blk_drew ?_ | refine blk_alloc ?_ _)); refine blk_put (cs := #[.int .i64 t302, .string (⟨#[]⟩ : ByteArray), .int .i64 0, .bool false, .bool false, .bool false]) ?_ 3 _ rfl; (with_reducible repeat (first | refine blk_drewN ?_ _ | refine blk_drew ?_ | refine blk_alloc ?_ _)); refine blk_put (cs := #[.int .i64 t302, .string (⟨#[]⟩ : ByteArray), .int .i64 0, .bool false, .bool false, .bool false]) ?_ 2 _ rfl; (with_reducible repeat (first | refine blk_drewN ?_ _ | refine blk_drew ?_ | refine blk_alloc ?_ _)); refine blk_put (cs := #[.int .i64 t302, .string (⟨#[]⟩ : ByteArray), .int .i64 0, .bool false, .bool false, .bool false]) ?_ 1 _ rfl; (with_reducible repeat (first | refine blk_drewN ?_ _ | refine blk_drew ?_ | refine blk_alloc ?_ _)); refine blk_put (cs := #[.int .i64 0, .string (⟨#[]⟩ : ByteArray), .int .i64 0, .bool false, .bool false, .bool false]) ?_ 0 _ rfl; (with_reducible repeat (first | refine blk_drewN ?_ _ | refine blk_drew ?_ | refine blk_alloc ?_ _)); exact BK308.out) hg (Kd.R_away HO_7.out (fun _ hk => hk.2))); have n4_ := aS (hb); have n5_ := aS (ho); clear HO_6; clear HL303_0; clear HL305_0; clear BK308; clear HB; clear HO_7; have HO_6 := n0_; have HL303_0 := n1_; have HL305_0 := n2_; have BK308 := n3_; have HB := n4_; have HO311 := n5_; clear n0_ n1_ n2_ n3_ n4_ n5_; clear ho hb hg hat))
       go_roundg kj12
       case measure => have := HJ2.out; have := HK2.out; have := HJ9.out; have := HJ12.out; omega
       case rel => exact ⟨(y309), (ji23), (ji26), (by first | rfl | (simp; done) | (simp only [← hji23] <;> (first | rfl | simp)) | (simp [*]; done)), (by first | rfl | (simp; done) | (simp only [← hji26] <;> (first | rfl | simp)) | (simp [*]; done)), H', ⟨by have := HJ2.out; have := HK2.out; have := HJ9.out; have := HJ12.out; omega⟩, ⟨by (with_reducible repeat (first | apply Kd.S_alloc | apply Kd.S_drewN | apply Kd.S_drew)); exact HO_6.out⟩, ⟨by exact rel <| Kd.R_mono HO311.out (fun _ hk => trivial)⟩, ⟨by repeat (first | (with_reducible first | exact HB.out | apply bA | apply bN | apply bD | refine below_set ?_ GE308.out) | exact HB.out)⟩⟩
      rw [if_neg c30] at H
      have c30b0 : ((rd (rd_L6 t294 x8_2) x9_2) == (wrap64 ((rd (rd_L6 t294 (ji23)) (ji26)) + t307))) = false := beq_eq_false_iff_ne.mpr c30
      have c30b1 : ((rd (rd_L6 t294 x8_2) x9_2) != (wrap64 ((rd (rd_L6 t294 (ji23)) (ji26)) + t307))) = true := bne_iff_ne.mpr c30
      by_cases c48 : (ji26) < ((rd_L6 t294 x8_2).length : Int)
      rotate_left
      ·rw [if_neg c48] at H
       exact absurd H (by simp)
      rw [if_pos c48] at H
      have c48b0 : decide ((ji26) < ((rd_L6 t294 x8_2).length : Int)) = true := decide_eq_true c48
      clear c48
      by_cases c49 : (rd (rd_L6 t294 x8_2) x9_2) = (wrap64 ((rd (rd_L6 t294 x8_2) (ji26)) + 2))
      rotate_left
      ·rw [if_neg c49] at H
       have c49b0 : ((rd (rd_L6 t294 x8_2) x9_2) == (wrap64 ((rd (rd_L6 t294 x8_2) (ji26)) + 2))) = false := beq_eq_false_iff_ne.mpr c49
       have c49b1 : ((rd (rd_L6 t294 x8_2) x9_2) != (wrap64 ((rd (rd_L6 t294 x8_2) (ji26)) + 2))) = true := bne_iff_ne.mpr c49
       by_cases c57 : x7_2.length < 3518437208883
       rotate_left
       ·rw [if_neg c57] at H
        exact absurd H (by simp)
       rw [if_pos c57] at H
       have LMc57 := aS c57
       clear c57
       obtain ⟨y324, hy324⟩ : ∃ y_ : List (S58), y_ = (x7_2 ++ [(⟨5, (⟨(⟨#[]⟩ : ByteArray), 0, false, false, false⟩ : S50)⟩ : S58)]) := ⟨_, rfl⟩
       replace H : (salchowref25_Script.l0 kj12 l0 l1 t294 y324 ji23 x9_2) = some (r1, r2) := by first | (rw [hy324]; with_reducible exact H) | (have H2_ := (Option.bind_some _ _).symm.trans H; rw [hy324]; with_reducible exact H2_) | (have H2_ := (Option.bind_some _ _).symm.trans H; with_reducible exact H2_) | with_reducible exact H | (rw [hy324]; exact H) | exact H
       have Ny324 := aS hy324
       clear hy324
       have H' := aS H
       clear H
       try go_wp2
       have n0_ := aS (Kd.S_drew HO_6.out)
       have n1_ := aS (Kd.R_drew HO_7.out)
       have n2_ := aS (below_drew1 HB.out)
       clear HO_6
       clear HO_7
       clear HB
       have HO_6 := n0_
       have HO_7 := n1_
       have HB := n2_
       clear n0_ n1_ n2_
       have p300 : 0 ≤ (x8_2 : Int) := of_decide_eq_true (by first | (with_reducible assumption) | assumption)
       have q300 : x8_2 < (l0.length : Int) := of_decide_eq_true (by first | (with_reducible assumption) | assumption)
       obtain ⟨ad300, e300, hx300_0, hx300_1, hx300_2, hx300_3, hx300_4⟩ := at_T50 HR0.out x8_2 p300 q300
       have hw300_4 := hx300_4
       have hw300_3 := hx300_3
       have hw300_2 := hx300_2
       have hw300_1 := hx300_1
       have hw300_0 := hx300_0
       cases e300
       replace hx300_0 := hup HB.out hx300_0
       replace hx300_1 := hup HB.out hx300_1
       replace hx300_2 := hup HB.out hx300_2
       replace hx300_3 := hup HB.out hx300_3
       replace hx300_4 := hup HB.out hx300_4
       replace p300 := eq_true p300
       replace q300 := eq_true q300
       have p301 : 0 ≤ (x9_2 : Int) := of_decide_eq_true (by first | (with_reducible assumption) | assumption)
       have q301 : x9_2 < (l1.length : Int) := of_decide_eq_true (by first | (with_reducible assumption) | assumption)
       obtain ⟨ad301, e301, hx301_0, hx301_1, hx301_2, hx301_3, hx301_4⟩ := at_T50 HR1.out x9_2 p301 q301
       have hw301_4 := hx301_4
       have hw301_3 := hx301_3
       have hw301_2 := hx301_2
       have hw301_1 := hx301_1
       have hw301_0 := hx301_0
       cases e301
       replace hx301_0 := hup HB.out hx301_0
       replace hx301_1 := hup HB.out hx301_1
       replace hx301_2 := hup HB.out hx301_2
       replace hx301_3 := hup HB.out hx301_3
       replace hx301_4 := hup HB.out hx301_4
       replace p301 := eq_true p301
       replace q301 := eq_true q301
       refine start_ (n := 10) (S := fun w' => w'.cell? (ad300.add ((x8_2).toNat * 5)) = some (.string ((rd_T50 l0 x8_2).f0)) ∧ w'.cell? ⟨(ad300.add ((x8_2).toNat * 5)).block, (ad300.add ((x8_2).toNat * 5)).off + 1, none⟩ = some (.int .i64 ((rd_T50 l0 x8_2).f1)) ∧ w'.cell? ⟨(ad300.add ((x8_2).toNat * 5)).block, (ad300.add ((x8_2).toNat * 5)).off + 2, none⟩ = some (.bool ((rd_T50 l0 x8_2).f2)) ∧ w'.cell? ⟨(ad300.add ((x8_2).toNat * 5)).block, (ad300.add ((x8_2).toNat * 5)).off + 3, none⟩ = some (.bool ((rd_T50 l0 x8_2).f3)) ∧ w'.cell? ⟨(ad300.add ((x8_2).toNat * 5)).block, (ad300.add ((x8_2).toNat * 5)).off + 4, none⟩ = some (.bool ((rd_T50 l0 x8_2).f4)) ∧ w'.cell? (ad301.add ((x9_2).toNat * 5)) = some (.string ((rd_T50 l1 x9_2).f0)) ∧ w'.cell? ⟨(ad301.add ((x9_2).toNat * 5)).block, (ad301.add ((x9_2).toNat * 5)).off + 1, none⟩ = some (.int .i64 ((rd_T50 l1 x9_2).f1)) ∧ w'.cell? ⟨(ad301.add ((x9_2).toNat * 5)).block, (ad301.add ((x9_2).toNat * 5)).off + 2, none⟩ = some (.bool ((rd_T50 l1 x9_2).f2)) ∧ w'.cell? ⟨(ad301.add ((x9_2).toNat * 5)).block, (ad301.add ((x9_2).toNat * 5)).off + 3, none⟩ = some (.bool ((rd_T50 l1 x9_2).f3)) ∧ w'.cell? ⟨(ad301.add ((x9_2).toNat * 5)).block, (ad301.add ((x9_2).toNat * 5)).off + 4, none⟩ = some (.bool ((rd_T50 l1 x9_2).f4))) (ds := []) #[false, false, false, false, false, false, false, false, false, false] (by kernel_rfl) rfl rfl ⟨(hup HB.out hw300_0), (hup HB.out hw300_1), (hup HB.out hw300_2), (hup HB.out hw300_3), (hup HB.out hw300_4), (hup HB.out hw301_0), (hup HB.out hw301_1), (hup HB.out hw301_2), (hup HB.out hw301_3), (hup HB.out hw301_4)⟩ (fun hHeld => ?_); refine with_tabW salchowref25_Script.tab8 salchowref25_Script.bits8 (fun HT_ HW_ => ?_)
       generalize wc.drew = w58 at HO_6 HO_7 HB hx300_0 hx300_1 hx300_2 hx300_3 hx300_4 hx301_0 hx301_1 hx301_2 hx301_3 hx301_4 hHeld ⊢
       refine pure_ (i := 0) (N := some 44) (v := ?_) (a' := ?_) (bs 10 1) rfl rfl (any_of HT_.out (by kernel_rfl)) (fun _ _ _ h => h) (Or.inl ⟨by rfl, ?_⟩) ?_ ?_
       rotate_left
       ·intro w'
        go_simp
        with_reducible rfl
       rotate_left
       ·simp only [Act.put, sA, sZ, sS, i64_w, i32_w]
        rfl
       refine pure_ (i := 1) (N := some 45) (v := ?_) (a' := ?_) (bs 10 3) rfl rfl (any_of HT_.out (by kernel_rfl)) (fun _ _ _ h => h) (Or.inl ⟨by rfl, ?_⟩) ?_ ?_
       rotate_left
       ·intro w'
        go_simp
        with_reducible rfl
       rotate_left
       ·simp only [Act.put, sA, sZ, sS, i64_w, i32_w]
        rfl
       refine pure_ (i := 2) (N := some 46) (v := ?_) (a' := ?_) (bs 10 7) rfl rfl (any_of HT_.out (by kernel_rfl)) (fun _ _ _ h => h) (Or.inl ⟨by rfl, ?_⟩) ?_ ?_
       rotate_left
       ·intro w'
        go_simp
        with_reducible rfl
       rotate_left
       ·simp only [Act.put, sA, sZ, sS, i64_w, i32_w]
        rfl
       refine pure_ (i := 4) (N := some 48) (v := ?_) (a' := ?_) (bs 10 23) rfl rfl (any_of HT_.out (by kernel_rfl)) (fun _ _ _ h => h) (Or.inl ⟨by rfl, ?_⟩) ?_ ?_
       rotate_left
       ·intro w'
        go_simp
        with_reducible rfl
       rotate_left
       ·simp only [Act.put, sA, sZ, sS, i64_w, i32_w]
        rfl
       refine pure_ (i := 5) (N := some 49) (v := ?_) (a' := ?_) (bs 10 55) rfl rfl (any_of HT_.out (by kernel_rfl)) (fun _ _ _ h => h) (Or.inl ⟨by rfl, ?_⟩) ?_ ?_
       rotate_left
       ·intro w'
        go_simp
        with_reducible rfl
       rotate_left
       ·simp only [Act.put, sA, sZ, sS, i64_w, i32_w]
        rfl
       refine pure_ (i := 6) (N := some 50) (v := ?_) (a' := ?_) (bs 10 119) rfl rfl (any_of HT_.out (by kernel_rfl)) (fun _ _ _ h => h) (Or.inl ⟨by rfl, ?_⟩) ?_ ?_
       rotate_left
       ·intro w'
        go_simp
        with_reducible rfl
       rotate_left
       ·simp only [Act.put, sA, sZ, sS, i64_w, i32_w]
        rfl
       refine take_ (i := 3) (N := some 47) (v := ?_) (a' := ?_) (bs 10 127) rfl rfl (take_ofW HT_.out HW_.out (by kernel_rfl)) (fun _ _ _ h => h) (Or.inl ⟨by rfl, ?_⟩) hHeld ?_ ?_
       rotate_left
       ·rintro w' ⟨s0, s1, s2, s3, s4, s5, s6, s7, s8, s9⟩
        go_simp
        with_reducible rfl
       rotate_left
       ·simp only [Act.put, sA, sZ, sS, i64_w, i32_w]
        rfl
       refine take_ (i := 7) (N := some 51) (v := ?_) (a' := ?_) (bs 10 255) rfl rfl (take_ofW HT_.out HW_.out (by kernel_rfl)) (fun _ _ _ h => h) (Or.inl ⟨by rfl, ?_⟩) hHeld ?_ ?_
       rotate_left
       ·rintro w' ⟨s0, s1, s2, s3, s4, s5, s6, s7, s8, s9⟩
        go_simp
        with_reducible rfl
       rotate_left
       ·simp only [Act.put, sA, sZ, sS, i64_w, i32_w]
        rfl
       refine one_ (i := 8) (N := some 52) (bs 10 511) rfl rfl (one_of HT_.out (by kernel_rfl)) (by decide) (fun K hK => ?_)
       refine goes_ Try.func36 (by kernel_rfl) rfl #[.agg #[.string ((rd_T50 l0 x8_2).f0), .int .i64 ((rd_T50 l0 x8_2).f1), .bool ((rd_T50 l0 x8_2).f2), .bool ((rd_T50 l0 x8_2).f3), .bool ((rd_T50 l0 x8_2).f4)], .agg #[.string ((rd_T50 l1 x9_2).f0), .int .i64 ((rd_T50 l1 x9_2).f1), .bool ((rd_T50 l1 x9_2).f2), .bool ((rd_T50 l1 x9_2).f3), .bool ((rd_T50 l1 x9_2).f4)]] (by rfl) rfl rfl (by (try simp only [List.map_toArray, List.map_cons, List.map_nil]); first | done | rfl | (simp only [List.length_drop, List.length_take]; rfl)) ?_
       with_reducible refine (salchowref25_Turn.calls ((rd_T50 l0 x8_2).f0) ((rd_T50 l0 x8_2).f1) ((rd_T50 l0 x8_2).f2) ((rd_T50 l0 x8_2).f3) ((rd_T50 l0 x8_2).f4) ((rd_T50 l1 x9_2).f0) ((rd_T50 l1 x9_2).f1) ((rd_T50 l1 x9_2).f2) ((rd_T50 l1 x9_2).f3) ((rd_T50 l1 x9_2).f4) t302 _ A20.out).mono ?_
       rintro e w59 ⟨rfl, hb⟩
       refine ⟨_, rfl, ?_⟩
       have n0_ := aS (Kd.S_below (by (with_reducible repeat (first | apply Kd.S_alloc | apply Kd.S_drewN | apply Kd.S_drew)); exact HO_6.out) hb)
       have n1_ := aS (Kd.R_below (by exact rel <| HO_7.out) hb)
       have n2_ := aS (below_step (by first | exact bel HB.out | exact HB.out) hb)
       clear HO_6
       clear HO_7
       clear HB
       have HO_6 := n0_
       have HO_7 := n1_
       have HB := n2_
       clear n0_ n1_ n2_
       (try clear hb)
       (try clear hb2)
       (try clear hk)
       (try clear hi)
       refine hK.out _ _ ⟨(hup HB.out hw300_0), (hup HB.out hw300_1), (hup HB.out hw300_2), (hup HB.out hw300_3), (hup HB.out hw300_4), (hup HB.out hw301_0), (hup HB.out hw301_1), (hup HB.out hw301_2), (hup HB.out hw301_3), (hup HB.out hw301_4)⟩ (fun hHeld => ?_)
       clear hK K
       refine norm_ (a' := ?_) ?_ ?_
       rotate_left
       ·show Act.put _ (some 52) _ = _
        simp only [Act.put, sA, sZ, sS, i64_w, i32_w]
        rfl
       refine pure_ (i := 9) (N := some 10) (v := ?_) (a' := ?_) (bs 10 1023) rfl rfl (any_of HT_.out (by kernel_rfl)) (fun _ _ _ h => h) (Or.inl ⟨by rfl, ?_⟩) ?_ ?_
       rotate_left
       ·intro w'
        go_simp
        with_reducible rfl
       rotate_left
       ·simp only [Act.put, sA, sZ, sS, i64_w, i32_w]
        rfl
       refine done_ (done_of HT_.out (by kernel_rfl)) ?_
       try go_wp2
       have n0_ := aS (Kd.S_drew HO_6.out)
       have n1_ := aS (Kd.R_drew HO_7.out)
       have n2_ := aS (below_drew1 HB.out)
       clear HO_6
       clear HO_7
       clear HB
       have HO_6 := n0_
       have HO_7 := n1_
       have HB := n2_
       clear n0_ n1_ n2_
       obtain ⟨Ao61, co61, eo61⟩ := Kd.S_slice HO_6.out
       (first | subst eo61 | (injection eo61 with f1_ f2_ f3_; have f4_ := f1_.symm; have f5_ := f3_.symm; clear f1_ f2_ f3_; subst f4_; subst f5_))
       have p303 : 0 ≤ (x8_2 : Int) := of_decide_eq_true (by first | (with_reducible assumption) | assumption)
       have q303 : x8_2 < (t294.length : Int) := of_decide_eq_true (by first | (with_reducible assumption) | assumption)
       obtain ⟨ad303, A303_0, c303_0, e303, hx303_0, hl303_0, hi303_0⟩ := at_L6 (Kd.S_reads' HO_6.out).2.2 x8_2 p303 q303
       cases e303
       obtain ⟨ce303, hce303, hMe303, hcc303⟩ := Kd.S_get HO_6.out [] x8_2 p303 (by first | exact q303 | exact of_decide_eq_true (by first | (with_reducible assumption) | assumption) | (have e_ := (Kd.S_reads' HO_6.out).1; omega))
       obtain ⟨ve303_0, rfl, ge303_0⟩ := hMe303
       have hv303_0 := hcc303 0 _ rfl
       rw [Nat.add_zero, show ((Kd.slice 3 (Kd.int .i64))).sz = 1 from rfl, Nat.mul_one] at hv303_0
       replace hv303_0 := Option.some.inj (hv303_0.symm.trans hx303_0)
       rw [hv303_0] at ge303_0
       have HL303_0 := aS (show Kd.R (Kd.int .i64) 3 _ _ _ _ (rd_L6 t294 x8_2) from ge303_0)
       clear hv303_0 ge303_0
       clear hcc303 hce303
       have HR303_0 := aS hi303_0
       have HC303_0 := aS hl303_0
       clear hi303_0 hl303_0
       replace p303 := eq_true p303
       replace q303 := eq_true q303
       have p304 : 0 ≤ (x9_2 : Int) := of_decide_eq_true (by first | (with_reducible assumption) | assumption)
       have q304 : x9_2 < ((rd_L6 t294 x8_2).length : Int) := of_decide_eq_true (by first | (with_reducible assumption) | assumption)
       obtain ⟨ad304, e304, hx304_0⟩ := Kd.at_int (by repeat (first | (with_reducible exact HR303_0.out) | (with_reducible apply Kd.C_alloc) | (with_reducible apply Kd.C_drewN) | (with_reducible apply Kd.C_drew) | exact HR303_0.out)) x9_2 p304 q304
       cases e304
       replace p304 := eq_true p304
       replace q304 := eq_true q304
       have p305 : 0 ≤ ((ji23) : Int) := of_decide_eq_true (by first | (with_reducible assumption) | assumption)
       have q305 : (ji23) < (t294.length : Int) := of_decide_eq_true (by first | (with_reducible assumption) | assumption)
       obtain ⟨ad305, A305_0, c305_0, e305, hx305_0, hl305_0, hi305_0⟩ := at_L6 (Kd.S_reads' HO_6.out).2.2 (ji23) p305 q305
       obtain rfl : ad303 = ad305 := (by injection e305)
       obtain ⟨ce305, hce305, hMe305, hcc305⟩ := Kd.S_get HO_6.out [] (ji23) p305 (by first | exact q305 | exact of_decide_eq_true (by first | (with_reducible assumption) | assumption) | (have e_ := (Kd.S_reads' HO_6.out).1; omega))
       obtain ⟨ve305_0, rfl, ge305_0⟩ := hMe305
       have hv305_0 := hcc305 0 _ rfl
       rw [Nat.add_zero, show ((Kd.slice 3 (Kd.int .i64))).sz = 1 from rfl, Nat.mul_one] at hv305_0
       replace hv305_0 := Option.some.inj (hv305_0.symm.trans hx305_0)
       rw [hv305_0] at ge305_0
       have HL305_0 := aS (show Kd.R (Kd.int .i64) 3 _ _ _ _ (rd_L6 t294 (ji23)) from ge305_0)
       clear hv305_0 ge305_0
       clear hcc305 hce305
       have HR305_0 := aS hi305_0
       have HC305_0 := aS hl305_0
       clear hi305_0 hl305_0
       replace p305 := eq_true p305
       replace q305 := eq_true q305
       have p306 : 0 ≤ ((ji26) : Int) := of_decide_eq_true (by first | (with_reducible assumption) | assumption)
       have q306 : (ji26) < ((rd_L6 t294 (ji23)).length : Int) := of_decide_eq_true (by first | (with_reducible assumption) | assumption)
       obtain ⟨ad306, e306, hx306_0⟩ := Kd.at_int (by repeat (first | (with_reducible exact HR305_0.out) | (with_reducible apply Kd.C_alloc) | (with_reducible apply Kd.C_drewN) | (with_reducible apply Kd.C_drew) | exact HR305_0.out)) (ji26) p306 q306
       cases e306
       replace p306 := eq_true p306
       replace q306 := eq_true q306
       refine start_ (n := 20) (S := fun w' => w'.cell? (ad303.add (x8_2).toNat) = some (.slice (some ad304) (rd_L6 t294 x8_2).length c303_0) ∧ w'.cell? (ad304.add (x9_2).toNat) = some (.int .i64 (rd (rd_L6 t294 x8_2) x9_2)) ∧ w'.cell? (ad303.add ((ji23)).toNat) = some (.slice (some ad306) (rd_L6 t294 (ji23)).length c305_0) ∧ w'.cell? (ad306.add ((ji26)).toNat) = some (.int .i64 (rd (rd_L6 t294 (ji23)) (ji26)))) (ds := []) #[false, false, false, false, false, false, false, false, false, false, false, false, false, false, false, false, false, false, false, false] (by kernel_rfl) rfl rfl ⟨hx303_0, hx304_0, hx305_0, hx306_0⟩ (fun hHeld => ?_); refine with_tabW salchowref25_Script.tab9 salchowref25_Script.bits9 (fun HT_ HW_ => ?_)
       generalize w59.drew = w60 at HO_6 HO_7 HB HL303_0 HL305_0 HR303_0 HR305_0 hx303_0 hx304_0 hx305_0 hx306_0 hHeld ⊢
       refine pure_ (i := 0) (N := some 53) (v := ?_) (a' := ?_) (bs 20 1) rfl rfl (any_of HT_.out (by kernel_rfl)) (fun _ _ _ h => h) (Or.inl ⟨by rfl, ?_⟩) ?_ ?_
       rotate_left
       ·intro w'
        go_simp
        with_reducible rfl
       rotate_left
       ·simp only [Act.put, sA, sZ, sS, i64_w, i32_w]
        rfl
       refine pure_ (i := 1) (N := some 54) (v := ?_) (a' := ?_) (bs 20 3) rfl rfl (any_of HT_.out (by kernel_rfl)) (fun _ _ _ h => h) (Or.inl ⟨by rfl, ?_⟩) ?_ ?_
       rotate_left
       ·intro w'
        go_simp
        with_reducible rfl
       rotate_left
       ·simp only [Act.put, sA, sZ, sS, i64_w, i32_w]
        rfl
       refine pure_ (i := 2) (N := some 55) (v := ?_) (a' := ?_) (bs 20 7) rfl rfl (any_of HT_.out (by kernel_rfl)) (fun _ _ _ h => h) (Or.inl ⟨by rfl, ?_⟩) ?_ ?_
       rotate_left
       ·intro w'
        go_simp
        with_reducible rfl
       rotate_left
       ·simp only [Act.put, sA, sZ, sS, i64_w, i32_w]
        rfl
       refine pure_ (i := 4) (N := some 57) (v := ?_) (a' := ?_) (bs 20 23) rfl rfl (any_of HT_.out (by kernel_rfl)) (fun _ _ _ h => h) (Or.inl ⟨by rfl, ?_⟩) ?_ ?_
       rotate_left
       ·intro w'
        go_simp
        with_reducible rfl
       rotate_left
       ·simp only [Act.put, sA, sZ, sS, i64_w, i32_w]
        rfl
       refine pure_ (i := 7) (N := some 60) (v := ?_) (a' := ?_) (bs 20 151) rfl rfl (any_of HT_.out (by kernel_rfl)) (fun _ _ _ h => h) (Or.inl ⟨by rfl, ?_⟩) ?_ ?_
       rotate_left
       ·intro w'
        go_simp
        with_reducible rfl
       rotate_left
       ·simp only [Act.put, sA, sZ, sS, i64_w, i32_w]
        rfl
       refine pure_ (i := 8) (N := some 61) (v := ?_) (a' := ?_) (bs 20 407) rfl rfl (any_of HT_.out (by kernel_rfl)) (fun _ _ _ h => h) (Or.inl ⟨by rfl, ?_⟩) ?_ ?_
       rotate_left
       ·intro w'
        go_simp
        with_reducible rfl
       rotate_left
       ·simp only [Act.put, sA, sZ, sS, i64_w, i32_w]
        rfl
       refine pure_ (i := 9) (N := some 62) (v := ?_) (a' := ?_) (bs 20 919) rfl rfl (any_of HT_.out (by kernel_rfl)) (fun _ _ _ h => h) (Or.inl ⟨by rfl, ?_⟩) ?_ ?_
       rotate_left
       ·intro w'
        go_simp
        with_reducible rfl
       rotate_left
       ·simp only [Act.put, sA, sZ, sS, i64_w, i32_w]
        rfl
       refine pure_ (i := 10) (N := some 63) (v := ?_) (a' := ?_) (bs 20 1943) rfl rfl (any_of HT_.out (by kernel_rfl)) (fun _ _ _ h => h) (Or.inl ⟨by rfl, ?_⟩) ?_ ?_
       rotate_left
       ·intro w'
        go_simp
        with_reducible rfl
       rotate_left
       ·simp only [Act.put, sA, sZ, sS, i64_w, i32_w]
        rfl
       refine pure_ (i := 12) (N := some 65) (v := ?_) (a' := ?_) (bs 20 6039) rfl rfl (any_of HT_.out (by kernel_rfl)) (fun _ _ _ h => h) (Or.inl ⟨by rfl, ?_⟩) ?_ ?_
       rotate_left
       ·intro w'
        go_simp
        with_reducible rfl
       rotate_left
       ·simp only [Act.put, sA, sZ, sS, i64_w, i32_w]
        rfl
       refine pure_ (i := 13) (N := some 66) (v := ?_) (a' := ?_) (bs 20 14231) rfl rfl (any_of HT_.out (by kernel_rfl)) (fun _ _ _ h => h) (Or.inl ⟨by rfl, ?_⟩) ?_ ?_
       rotate_left
       ·intro w'
        go_simp
        with_reducible rfl
       rotate_left
       ·simp only [Act.put, sA, sZ, sS, i64_w, i32_w]
        rfl
       refine pure_ (i := 16) (N := some 69) (v := ?_) (a' := ?_) (bs 20 79767) rfl rfl (any_of HT_.out (by kernel_rfl)) (fun _ _ _ h => h) (Or.inl ⟨by rfl, ?_⟩) ?_ ?_
       rotate_left
       ·intro w'
        go_simp
        with_reducible rfl
       rotate_left
       ·simp only [Act.put, sA, sZ, sS, i64_w, i32_w]
        rfl
       refine take_ (i := 3) (N := some 56) (v := ?_) (a' := ?_) (bs 20 79775) rfl rfl (take_ofW HT_.out HW_.out (by kernel_rfl)) (fun _ _ _ h => h) (Or.inl ⟨by rfl, ?_⟩) hHeld ?_ ?_
       rotate_left
       ·rintro w' ⟨s0, s1, s2, s3⟩
        go_simp
        with_reducible rfl
       rotate_left
       ·simp only [Act.put, sA, sZ, sS, i64_w, i32_w]
        rfl
       refine pure_ (i := 5) (N := some 58) (v := ?_) (a' := ?_) (bs 20 79807) rfl rfl (any_of HT_.out (by kernel_rfl)) (fun _ _ _ h => h) (Or.inl ⟨by rfl, ?_⟩) ?_ ?_
       rotate_left
       ·intro w'
        go_simp
        with_reducible rfl
       rotate_left
       ·simp only [Act.put, sA, sZ, sS, i64_w, i32_w]
        rfl
       refine take_ (i := 6) (N := some 59) (v := ?_) (a' := ?_) (bs 20 79871) rfl rfl (take_ofW HT_.out HW_.out (by kernel_rfl)) (fun _ _ _ h => h) (Or.inl ⟨by rfl, ?_⟩) hHeld ?_ ?_
       rotate_left
       ·rintro w' ⟨s0, s1, s2, s3⟩
        go_simp
        with_reducible rfl
       rotate_left
       ·simp only [Act.put, sA, sZ, sS, i64_w, i32_w]
        rfl
       refine take_ (i := 11) (N := some 64) (v := ?_) (a' := ?_) (bs 20 81919) rfl rfl (take_ofW HT_.out HW_.out (by kernel_rfl)) (fun _ _ _ h => h) (Or.inl ⟨by rfl, ?_⟩) hHeld ?_ ?_
       rotate_left
       ·rintro w' ⟨s0, s1, s2, s3⟩
        go_simp
        with_reducible rfl
       rotate_left
       ·simp only [Act.put, sA, sZ, sS, i64_w, i32_w]
        rfl
       refine pure_ (i := 14) (N := some 67) (v := ?_) (a' := ?_) (bs 20 98303) rfl rfl (any_of HT_.out (by kernel_rfl)) (fun _ _ _ h => h) (Or.inl ⟨by rfl, ?_⟩) ?_ ?_
       rotate_left
       ·intro w'
        go_simp
        with_reducible rfl
       rotate_left
       ·simp only [Act.put, sA, sZ, sS, i64_w, i32_w]
        rfl
       refine take_ (i := 15) (N := some 68) (v := ?_) (a' := ?_) (bs 20 131071) rfl rfl (take_ofW HT_.out HW_.out (by kernel_rfl)) (fun _ _ _ h => h) (Or.inl ⟨by rfl, ?_⟩) hHeld ?_ ?_
       rotate_left
       ·rintro w' ⟨s0, s1, s2, s3⟩
        go_simp
        with_reducible rfl
       rotate_left
       ·simp only [Act.put, sA, sZ, sS, i64_w, i32_w]
        rfl
       refine one_ (i := 17) (N := some 70) (bs 20 262143) rfl rfl (one_of HT_.out (by kernel_rfl)) (by decide) (fun K hK => ?_)
       refine goes_ Try.func31 (by kernel_rfl) rfl #[.int .i64 t302] (by rfl) rfl rfl (by (try simp only [List.map_toArray, List.map_cons, List.map_nil]); first | done | rfl | (simp only [List.length_drop, List.length_take]; rfl)) ?_
       with_reducible refine (salchowref25_Cost.calls kj12 t302 t307 _ A29.out).mono ?_
       rintro e w' ⟨rfl, ⟨nd, rfl⟩⟩
       refine ⟨_, rfl, ?_⟩
       refine hK.out _ _ ⟨hHeld.1, hHeld.2.1, hHeld.2.2.1, hHeld.2.2.2⟩ (fun hHeld => ?_)
       clear hK K
       refine norm_ (a' := ?_) ?_ ?_
       rotate_left
       ·show Act.put _ (some 70) _ = _
        simp only [Act.put, sA, sZ, sS, i64_w, i32_w]
        rfl
       refine pure_ (i := 18) (N := some 71) (v := ?_) (a' := ?_) (bs 20 524287) rfl rfl (any_of HT_.out (by kernel_rfl)) (fun _ _ _ h => h) (Or.inl ⟨by rfl, ?_⟩) ?_ ?_
       rotate_left
       ·intro w'
        go_simp
        with_reducible rfl
       rotate_left
       ·simp only [Act.put, sA, sZ, sS, i64_w, i32_w]
        rfl
       refine pure_ (i := 19) (N := some 72) (v := ?_) (a' := ?_) (bs 20 1048575) rfl rfl (any_of HT_.out (by kernel_rfl)) (fun _ _ _ h => h) (Or.inl ⟨by rfl, ?_⟩) ?_ ?_
       rotate_left
       ·intro w'
        go_simp
        with_reducible rfl
       rotate_left
       ·simp only [Act.put, sA, sZ, sS, i64_w, i32_w]
        rfl
       refine done_ (done_of HT_.out (by kernel_rfl)) ?_
       try go_wp2
       (try (rw [drewN_self w60]; generalize hq_ : World.drewN w60 _ = w60; have n0_ : Aside0 (Kd.R (Kd.int .i64) 3 w60 w.heap.size (fun k_ => some k_ ≠ (.slice (some ad303) t294.length co61 : Value).ownBlock) (.slice (some ad304) (rd_L6 t294 x8_2).length c303_0) (rd_L6 t294 x8_2)) := ⟨by rw [← hq_]; exact (by exact rel <| Kd.R_mono HL303_0.out (fun _ hk => hk.2))⟩; have n1_ : Aside0 (Kd.R (Kd.int .i64) 3 w60 w.heap.size (fun k_ => some k_ ≠ (.slice (some ad303) t294.length co61 : Value).ownBlock) (.slice (some ad306) (rd_L6 t294 (ji23)).length c305_0) (rd_L6 t294 (ji23))) := ⟨by rw [← hq_]; exact (by exact rel <| Kd.R_mono HL305_0.out (fun _ hk => hk.2))⟩; have n2_ : Aside0 (Kd.S (Kd.slice 3 (Kd.int .i64)) 45 w60 w.heap.size (fun _ => True) (.slice (some ad303) t294.length co61) t294) := ⟨by rw [← hq_]; exact (by (with_reducible repeat (first | apply Kd.S_alloc | apply Kd.S_drewN | apply Kd.S_drew)); exact HO_6.out)⟩; have n3_ : Aside0 (Kd.R k58 58 w60 w.heap.size (fun _ => True) u7 x7_2) := ⟨by rw [← hq_]; exact (by exact rel <| HO_7.out)⟩; have n4_ : Aside0 (Below w.heap.size w w60) := ⟨by rw [← hq_]; exact (by first | exact bel HB.out | exact HB.out)⟩; have n5_ : Aside0 (Kd.C (Kd.int .i64) w60 (some ad304) (rd_L6 t294 x8_2).length (rd_L6 t294 x8_2)) := ⟨by rw [← hq_]; exact (by repeat (first | (with_reducible exact HR303_0.out) | (with_reducible apply Kd.C_alloc) | (with_reducible apply Kd.C_drewN) | (with_reducible apply Kd.C_drew) | exact HR303_0.out))⟩; have n6_ : Aside0 (Kd.C (Kd.int .i64) w60 (some ad306) (rd_L6 t294 (ji23)).length (rd_L6 t294 (ji23))) := ⟨by rw [← hq_]; exact (by repeat (first | (with_reducible exact HR305_0.out) | (with_reducible apply Kd.C_alloc) | (with_reducible apply Kd.C_drewN) | (with_reducible apply Kd.C_drew) | exact HR305_0.out))⟩; clear HL303_0 HL305_0 HO_6 HO_7 HB HR303_0 HR305_0 hq_; have HL303_0 := n0_; have HL305_0 := n1_; have HO_6 := n2_; have HO_7 := n3_; have HB := n4_; have HR303_0 := n5_; have HR305_0 := n6_; clear n0_ n1_ n2_ n3_ n4_ n5_ n6_))
       have n0_ := aS (Kd.S_drew HO_6.out)
       have n1_ := aS (Kd.R_drew HO_7.out)
       have n2_ := aS (Kd.R_drew HL303_0.out)
       have n3_ := aS (Kd.R_drew HL305_0.out)
       have n4_ := aS (Kd.C_drew HR303_0.out)
       have n5_ := aS (Kd.C_drew HR305_0.out)
       have n6_ := aS (below_drew1 HB.out)
       clear HO_6
       clear HO_7
       clear HL303_0
       clear HL305_0
       clear HR303_0
       clear HR305_0
       clear HB
       have HO_6 := n0_
       have HO_7 := n1_
       have HL303_0 := n2_
       have HL305_0 := n3_
       have HR303_0 := n4_
       have HR305_0 := n5_
       have HB := n6_
       clear n0_ n1_ n2_ n3_ n4_ n5_ n6_
       have p316 : 0 ≤ (x8_2 : Int) := of_decide_eq_true (by first | (with_reducible assumption) | assumption)
       have q316 : x8_2 < (t294.length : Int) := of_decide_eq_true (by first | (with_reducible assumption) | assumption)
       obtain ⟨ad316, A316_0, c316_0, e316, hx316_0, hl316_0, hi316_0⟩ := at_L6 (Kd.S_reads' HO_6.out).2.2 x8_2 p316 q316
       obtain rfl : ad303 = ad316 := (by injection e316)
       obtain ⟨ce316, hce316, hMe316, hcc316⟩ := Kd.S_get HO_6.out [] x8_2 p316 (by first | exact q316 | exact of_decide_eq_true (by first | (with_reducible assumption) | assumption) | (have e_ := (Kd.S_reads' HO_6.out).1; omega))
       obtain ⟨ve316_0, rfl, ge316_0⟩ := hMe316
       have hv316_0 := hcc316 0 _ rfl
       rw [Nat.add_zero, show ((Kd.slice 3 (Kd.int .i64))).sz = 1 from rfl, Nat.mul_one] at hv316_0
       replace hv316_0 := Option.some.inj (hv316_0.symm.trans hx316_0)
       rw [hv316_0] at ge316_0
       have HL316_0 := aS (show Kd.R (Kd.int .i64) 3 _ _ _ _ (rd_L6 t294 x8_2) from ge316_0)
       clear hv316_0 ge316_0
       clear hcc316 hce316
       have HR316_0 := aS hi316_0
       have HC316_0 := aS hl316_0
       clear hi316_0 hl316_0
       replace p316 := eq_true p316
       replace q316 := eq_true q316
       have p317 : 0 ≤ (x9_2 : Int) := of_decide_eq_true (by first | (with_reducible assumption) | assumption)
       have q317 : x9_2 < ((rd_L6 t294 x8_2).length : Int) := of_decide_eq_true (by first | (with_reducible assumption) | assumption)
       obtain ⟨ad317, e317, hx317_0⟩ := Kd.at_int (by repeat (first | (with_reducible exact HR316_0.out) | (with_reducible apply Kd.C_alloc) | (with_reducible apply Kd.C_drewN) | (with_reducible apply Kd.C_drew) | exact HR316_0.out)) x9_2 p317 q317
       cases e317
       replace p317 := eq_true p317
       replace q317 := eq_true q317
       have p318 : 0 ≤ (x8_2 : Int) := of_decide_eq_true (by first | (with_reducible assumption) | assumption)
       have q318 : x8_2 < (t294.length : Int) := of_decide_eq_true (by first | (with_reducible assumption) | assumption)
       obtain ⟨ad318, A318_0, c318_0, e318, hx318_0, hl318_0, hi318_0⟩ := at_L6 (Kd.S_reads' HO_6.out).2.2 x8_2 p318 q318
       obtain rfl : ad303 = ad318 := (by injection e318)
       obtain ⟨ce318, hce318, hMe318, hcc318⟩ := Kd.S_get HO_6.out [] x8_2 p318 (by first | exact q318 | exact of_decide_eq_true (by first | (with_reducible assumption) | assumption) | (have e_ := (Kd.S_reads' HO_6.out).1; omega))
       obtain ⟨ve318_0, rfl, ge318_0⟩ := hMe318
       have hv318_0 := hcc318 0 _ rfl
       rw [Nat.add_zero, show ((Kd.slice 3 (Kd.int .i64))).sz = 1 from rfl, Nat.mul_one] at hv318_0
       replace hv318_0 := Option.some.inj (hv318_0.symm.trans hx318_0)
       rw [hv318_0] at ge318_0
       have HL318_0 := aS (show Kd.R (Kd.int .i64) 3 _ _ _ _ (rd_L6 t294 x8_2) from ge318_0)
       clear hv318_0 ge318_0
       clear hcc318 hce318
       have HR318_0 := aS hi318_0
       have HC318_0 := aS hl318_0
       clear hi318_0 hl318_0
       replace p318 := eq_true p318
       replace q318 := eq_true q318
       have ea_ := Option.some.inj (hx316_0.symm.trans hx318_0)
       injection ea_ with ea_ en_ ec_
       subst ea_
       subst ec_
       clear en_
       have p319 : 0 ≤ ((ji26) : Int) := of_decide_eq_true (by first | (with_reducible assumption) | assumption)
       have q319 : (ji26) < ((rd_L6 t294 x8_2).length : Int) := of_decide_eq_true (by first | (with_reducible assumption) | assumption)
       obtain ⟨ad319, e319, hx319_0⟩ := Kd.at_int (by repeat (first | (with_reducible exact HR318_0.out) | (with_reducible apply Kd.C_alloc) | (with_reducible apply Kd.C_drewN) | (with_reducible apply Kd.C_drew) | exact HR318_0.out)) (ji26) p319 q319
       cases e319
       replace p319 := eq_true p319
       replace q319 := eq_true q319
       refine start_ (n := 23) (S := fun w' => w'.cell? (ad303.add (x8_2).toNat) = some (.slice (some ad317) (rd_L6 t294 x8_2).length c316_0) ∧ w'.cell? (ad317.add (x9_2).toNat) = some (.int .i64 (rd (rd_L6 t294 x8_2) x9_2)) ∧ w'.cell? (ad303.add (x8_2).toNat) = some (.slice (some ad317) (rd_L6 t294 x8_2).length c316_0) ∧ w'.cell? (ad317.add ((ji26)).toNat) = some (.int .i64 (rd (rd_L6 t294 x8_2) (ji26)))) (ds := []) #[false, false, false, false, false, false, false, false, false, false, false, false, false, false, false, false, false, false, false, false, false, false, false] (by kernel_rfl) rfl rfl ⟨hx316_0, hx317_0, hx318_0, hx319_0⟩ (fun hHeld => ?_); refine with_tabW salchowref25_Script.tab15 salchowref25_Script.bits15 (fun HT_ HW_ => ?_)
       generalize w60.drew = w62 at HO_6 HO_7 HL303_0 HL305_0 HR303_0 HR305_0 HB HL316_0 HL318_0 HR316_0 HR318_0 hx316_0 hx317_0 hx318_0 hx319_0 hHeld ⊢
       refine pure_ (i := 0) (N := some 90) (v := ?_) (a' := ?_) (bs 23 1) rfl rfl (any_of HT_.out (by kernel_rfl)) (fun _ _ _ h => h) (Or.inl ⟨by rfl, ?_⟩) ?_ ?_
       rotate_left
       ·intro w'
        go_simp
        with_reducible rfl
       rotate_left
       ·simp only [Act.put, sA, sZ, sS, i64_w, i32_w]
        rfl
       refine pure_ (i := 1) (N := some 91) (v := ?_) (a' := ?_) (bs 23 3) rfl rfl (any_of HT_.out (by kernel_rfl)) (fun _ _ _ h => h) (Or.inl ⟨by rfl, ?_⟩) ?_ ?_
       rotate_left
       ·intro w'
        go_simp
        with_reducible rfl
       rotate_left
       ·simp only [Act.put, sA, sZ, sS, i64_w, i32_w]
        rfl
       refine pure_ (i := 2) (N := some 92) (v := ?_) (a' := ?_) (bs 23 7) rfl rfl (any_of HT_.out (by kernel_rfl)) (fun _ _ _ h => h) (Or.inl ⟨by rfl, ?_⟩) ?_ ?_
       rotate_left
       ·intro w'
        go_simp
        with_reducible rfl
       rotate_left
       ·simp only [Act.put, sA, sZ, sS, i64_w, i32_w]
        rfl
       refine pure_ (i := 3) (N := some 93) (v := ?_) (a' := ?_) (bs 23 15) rfl rfl (any_of HT_.out (by kernel_rfl)) (fun _ _ _ h => h) (Or.inl ⟨by rfl, ?_⟩) ?_ ?_
       rotate_left
       ·intro w'
        go_simp
        with_reducible rfl
       rotate_left
       ·simp only [Act.put, sA, sZ, sS, i64_w, i32_w]
        rfl
       refine pure_ (i := 4) (N := some 94) (v := ?_) (a' := ?_) (bs 23 31) rfl rfl (any_of HT_.out (by kernel_rfl)) (fun _ _ _ h => h) (Or.inl ⟨by rfl, ?_⟩) ?_ ?_
       rotate_left
       ·intro w'
        go_simp
        with_reducible rfl
       rotate_left
       ·simp only [Act.put, sA, sZ, sS, i64_w, i32_w]
        rfl
       refine pure_ (i := 5) (N := some 95) (v := ?_) (a' := ?_) (bs 23 63) rfl rfl (any_of HT_.out (by kernel_rfl)) (fun _ _ _ h => h) (Or.inl ⟨by rfl, ?_⟩) ?_ ?_
       rotate_left
       ·intro w'
        go_simp
        with_reducible rfl
       rotate_left
       ·simp only [Act.put, sA, sZ, sS, i64_w, i32_w]
        rfl
       refine pure_ (i := 6) (N := some 96) (v := ?_) (a' := ?_) (bs 23 127) rfl rfl (any_of HT_.out (by kernel_rfl)) (fun _ _ _ h => h) (Or.inl ⟨by rfl, ?_⟩) ?_ ?_
       rotate_left
       ·intro w'
        go_simp
        with_reducible rfl
       rotate_left
       ·simp only [Act.put, sA, sZ, sS, i64_w, i32_w]
        rfl
       refine pure_ (i := 7) (N := some 97) (v := ?_) (a' := ?_) (bs 23 255) rfl rfl (any_of HT_.out (by kernel_rfl)) (fun _ _ _ h => h) (Or.inl ⟨by rfl, ?_⟩) ?_ ?_
       rotate_left
       ·intro w'
        go_simp
        with_reducible rfl
       rotate_left
       ·simp only [Act.put, sA, sZ, sS, i64_w, i32_w]
        rfl
       refine pure_ (i := 9) (N := some 99) (v := ?_) (a' := ?_) (bs 23 767) rfl rfl (any_of HT_.out (by kernel_rfl)) (fun _ _ _ h => h) (Or.inl ⟨by rfl, ?_⟩) ?_ ?_
       rotate_left
       ·intro w'
        go_simp
        with_reducible rfl
       rotate_left
       ·simp only [Act.put, sA, sZ, sS, i64_w, i32_w]
        rfl
       refine pure_ (i := 12) (N := some 102) (v := ?_) (a' := ?_) (bs 23 4863) rfl rfl (any_of HT_.out (by kernel_rfl)) (fun _ _ _ h => h) (Or.inl ⟨by rfl, ?_⟩) ?_ ?_
       rotate_left
       ·intro w'
        go_simp
        with_reducible rfl
       rotate_left
       ·simp only [Act.put, sA, sZ, sS, i64_w, i32_w]
        rfl
       refine pure_ (i := 13) (N := some 103) (v := ?_) (a' := ?_) (bs 23 13055) rfl rfl (any_of HT_.out (by kernel_rfl)) (fun _ _ _ h => h) (Or.inl ⟨by rfl, ?_⟩) ?_ ?_
       rotate_left
       ·intro w'
        go_simp
        with_reducible rfl
       rotate_left
       ·simp only [Act.put, sA, sZ, sS, i64_w, i32_w]
        rfl
       refine pure_ (i := 14) (N := some 104) (v := ?_) (a' := ?_) (bs 23 29439) rfl rfl (any_of HT_.out (by kernel_rfl)) (fun _ _ _ h => h) (Or.inl ⟨by rfl, ?_⟩) ?_ ?_
       rotate_left
       ·intro w'
        go_simp
        with_reducible rfl
       rotate_left
       ·simp only [Act.put, sA, sZ, sS, i64_w, i32_w]
        rfl
       refine pure_ (i := 16) (N := some 106) (v := ?_) (a' := ?_) (bs 23 94975) rfl rfl (any_of HT_.out (by kernel_rfl)) (fun _ _ _ h => h) (Or.inl ⟨by rfl, ?_⟩) ?_ ?_
       rotate_left
       ·intro w'
        go_simp
        with_reducible rfl
       rotate_left
       ·simp only [Act.put, sA, sZ, sS, i64_w, i32_w]
        rfl
       refine pure_ (i := 17) (N := some 107) (v := ?_) (a' := ?_) (bs 23 226047) rfl rfl (any_of HT_.out (by kernel_rfl)) (fun _ _ _ h => h) (Or.inl ⟨by rfl, ?_⟩) ?_ ?_
       rotate_left
       ·intro w'
        go_simp
        with_reducible rfl
       rotate_left
       ·simp only [Act.put, sA, sZ, sS, i64_w, i32_w]
        rfl
       refine take_ (i := 8) (N := some 98) (v := ?_) (a' := ?_) (bs 23 226303) rfl rfl (take_ofW HT_.out HW_.out (by kernel_rfl)) (fun _ _ _ h => h) (Or.inl ⟨by rfl, ?_⟩) hHeld ?_ ?_
       rotate_left
       ·rintro w' ⟨s0, s1, s2, s3⟩
        go_simp
        with_reducible rfl
       rotate_left
       ·simp only [Act.put, sA, sZ, sS, i64_w, i32_w]
        rfl
       refine pure_ (i := 10) (N := some 100) (v := ?_) (a' := ?_) (bs 23 227327) rfl rfl (any_of HT_.out (by kernel_rfl)) (fun _ _ _ h => h) (Or.inl ⟨by rfl, ?_⟩) ?_ ?_
       rotate_left
       ·intro w'
        go_simp
        with_reducible rfl
       rotate_left
       ·simp only [Act.put, sA, sZ, sS, i64_w, i32_w]
        rfl
       refine take_ (i := 11) (N := some 101) (v := ?_) (a' := ?_) (bs 23 229375) rfl rfl (take_ofW HT_.out HW_.out (by kernel_rfl)) (fun _ _ _ h => h) (Or.inl ⟨by rfl, ?_⟩) hHeld ?_ ?_
       rotate_left
       ·rintro w' ⟨s0, s1, s2, s3⟩
        go_simp
        with_reducible rfl
       rotate_left
       ·simp only [Act.put, sA, sZ, sS, i64_w, i32_w]
        rfl
       refine take_ (i := 15) (N := some 105) (v := ?_) (a' := ?_) (bs 23 262143) rfl rfl (take_ofW HT_.out HW_.out (by kernel_rfl)) (fun _ _ _ h => h) (Or.inl ⟨by rfl, ?_⟩) hHeld ?_ ?_
       rotate_left
       ·rintro w' ⟨s0, s1, s2, s3⟩
        go_simp
        with_reducible rfl
       rotate_left
       ·simp only [Act.put, sA, sZ, sS, i64_w, i32_w]
        rfl
       refine pure_ (i := 18) (N := some 108) (v := ?_) (a' := ?_) (bs 23 524287) rfl rfl (any_of HT_.out (by kernel_rfl)) (fun _ _ _ h => h) (Or.inl ⟨by rfl, ?_⟩) ?_ ?_
       rotate_left
       ·intro w'
        go_simp
        with_reducible rfl
       rotate_left
       ·simp only [Act.put, sA, sZ, sS, i64_w, i32_w]
        rfl
       refine take_ (i := 19) (N := some 109) (v := ?_) (a' := ?_) (bs 23 1048575) rfl rfl (take_ofW HT_.out HW_.out (by kernel_rfl)) (fun _ _ _ h => h) (Or.inl ⟨by rfl, ?_⟩) hHeld ?_ ?_
       rotate_left
       ·rintro w' ⟨s0, s1, s2, s3⟩
        go_simp
        with_reducible rfl
       rotate_left
       ·simp only [Act.put, sA, sZ, sS, i64_w, i32_w]
        rfl
       refine pure_ (i := 20) (N := some 110) (v := ?_) (a' := ?_) (bs 23 2097151) rfl rfl (any_of HT_.out (by kernel_rfl)) (fun _ _ _ h => h) (Or.inl ⟨by rfl, ?_⟩) ?_ ?_
       rotate_left
       ·intro w'
        go_simp
        with_reducible rfl
       rotate_left
       ·simp only [Act.put, sA, sZ, sS, i64_w, i32_w]
        rfl
       refine pure_ (i := 21) (N := some 111) (v := ?_) (a' := ?_) (bs 23 4194303) rfl rfl (any_of HT_.out (by kernel_rfl)) (fun _ _ _ h => h) (Or.inl ⟨by rfl, ?_⟩) ?_ ?_
       rotate_left
       ·intro w'
        go_simp
        with_reducible rfl
       rotate_left
       ·simp only [Act.put, sA, sZ, sS, i64_w, i32_w]
        rfl
       refine pure_ (i := 22) (N := some 112) (v := ?_) (a' := ?_) (bs 23 8388607) rfl rfl (any_of HT_.out (by kernel_rfl)) (fun _ _ _ h => h) (Or.inl ⟨by rfl, ?_⟩) ?_ ?_
       rotate_left
       ·intro w'
        go_simp
        with_reducible rfl
       rotate_left
       ·simp only [Act.put, sA, sZ, sS, i64_w, i32_w]
        rfl
       refine done_ (done_of HT_.out (by kernel_rfl)) ?_
       try go_wp2_with (first | ((with_reducible refine gate_builtin (b := .append) (xs := #[.tmp 123, .tmp 125]) rfl ?_); (try (refine gate_guard (by rfl) ?_; dsimp only)); at_builtin; refine Kd.R_append k58 (w0 := w) w.heap.size rfl (.tmp 123) (.tmp 125) 31 58 (.agg #[(.int .i64 0), (.string ⟨#[]⟩), (.int .i64 0), (.bool false), (.bool false), (.bool false)]) 40 rfl Try.underlying31 info58 rfl (by decide) (by omega) u7 x7_2 (⟨5, (⟨(⟨#[]⟩ : ByteArray), 0, false, false, false⟩ : S50)⟩ : S58) [.int .i64 5, .string (⟨#[]⟩ : ByteArray), .int .i64 0, .bool false, .bool false, .bool false] (fun _ => True) (fun _ => False) rfl rfl ?aP (fun _ hk => hk.elim) ?aF ?aO ?aB ?aS ?aL ?_; (case aP => exact k58_mkM _ _ _ (⟨5, (⟨(⟨#[]⟩ : ByteArray), 0, false, false, false⟩ : S50)⟩ : S58)); (case aB => exact (by first | exact bel HB.out | exact HB.out)); (case aF => exact (fun _ _ => trivial)); (case aO => exact (by exact rel <| HO_7.out)); (case aS => exact (below_size (by first | exact bel HB.out | exact HB.out))); (case aL => have := LMc57.out; omega); intro v325 w63 ho hb hg hat; rw [← Ny324.out] at ho; have n0_ := aS (Kd.S_over' (by (with_reducible repeat (first | apply Kd.S_alloc | apply Kd.S_drewN | apply Kd.S_drew)); exact HO_6.out) (Kd.R_typed (by exact rel <| HO_7.out)) (by decide) hg); have n1_ := aS (Kd.R_over' (by exact rel <| HL303_0.out) (Kd.R_typed (by exact rel <| HO_7.out)) (by decide) hg); have n2_ := aS (Kd.R_over' (by exact rel <| HL305_0.out) (Kd.R_typed (by exact rel <| HO_7.out)) (by decide) hg); have n3_ := aS (Kd.R_over' (by exact rel <| HL316_0.out) (Kd.R_typed (by exact rel <| HO_7.out)) (by decide) hg); have n4_ := aS (Kd.R_over' (by exact rel <| HL318_0.out) (Kd.R_typed (by exact rel <| HO_7.out)) (by decide) hg); have n5_ := aS (hb); have n6_ := aS (ho); clear HO_6; clear HL303_0; clear HL305_0; clear HL316_0; clear HL318_0; clear HB; clear HO_7; have HO_6 := n0_; have HL303_0 := n1_; have HL305_0 := n2_; have HL316_0 := n3_; have HL318_0 := n4_; have HB := n5_; have HO326 := n6_; clear n0_ n1_ n2_ n3_ n4_ n5_ n6_; clear ho hb hg hat))
       go_roundg kj12
       case measure => have := HJ2.out; have := HK2.out; have := HJ9.out; have := HJ12.out; omega
       case rel => exact ⟨(y324), (ji23), (x9_2), (by first | rfl | (simp; done) | (simp only [← hji23] <;> (first | rfl | simp)) | (simp [*]; done)), (by first | rfl | (simp; done) | (simp [*]; done)), H', ⟨by have := HJ2.out; have := HK2.out; have := HJ9.out; have := HJ12.out; omega⟩, ⟨by (with_reducible repeat (first | apply Kd.S_alloc | apply Kd.S_drewN | apply Kd.S_drew)); exact HO_6.out⟩, ⟨by exact rel <| HO326.out⟩, ⟨by first | exact bel HB.out | exact HB.out⟩⟩
      rw [if_pos c49] at H
      have c49b0 : ((rd (rd_L6 t294 x8_2) x9_2) == (wrap64 ((rd (rd_L6 t294 x8_2) (ji26)) + 2))) = true := beq_iff_eq.mpr c49
      have c49b1 : ((rd (rd_L6 t294 x8_2) x9_2) != (wrap64 ((rd (rd_L6 t294 x8_2) (ji26)) + 2))) = false := bne_eq_false_iff_eq.mpr c49
      clear c49
      by_cases c50 : x7_2.length < 3518437208883
      rotate_left
      ·rw [if_neg c50] at H
       exact absurd H (by simp)
      rw [if_pos c50] at H
      have LMc50 := aS c50
      clear c50
      obtain ⟨y321, hy321⟩ : ∃ y_ : List (S58), y_ = (x7_2 ++ [(⟨4, (⟨(rd_T50 l1 x9_2).f0, (rd_T50 l1 x9_2).f1, (rd_T50 l1 x9_2).f2, (rd_T50 l1 x9_2).f3, (rd_T50 l1 x9_2).f4⟩ : S50)⟩ : S58)]) := ⟨_, rfl⟩
      replace H : (salchowref25_Script.l0 kj12 l0 l1 t294 y321 x8_2 ji26) = some (r1, r2) := by first | (rw [hy321]; with_reducible exact H) | (have H2_ := (Option.bind_some _ _).symm.trans H; rw [hy321]; with_reducible exact H2_) | (have H2_ := (Option.bind_some _ _).symm.trans H; with_reducible exact H2_) | with_reducible exact H | (rw [hy321]; exact H) | exact H
      have Ny321 := aS hy321
      clear hy321
      have H' := aS H
      clear H
      try go_wp2
      have n0_ := aS (Kd.S_drew HO_6.out)
      have n1_ := aS (Kd.R_drew HO_7.out)
      have n2_ := aS (below_drew1 HB.out)
      clear HO_6
      clear HO_7
      clear HB
      have HO_6 := n0_
      have HO_7 := n1_
      have HB := n2_
      clear n0_ n1_ n2_
      have p300 : 0 ≤ (x8_2 : Int) := of_decide_eq_true (by first | (with_reducible assumption) | assumption)
      have q300 : x8_2 < (l0.length : Int) := of_decide_eq_true (by first | (with_reducible assumption) | assumption)
      obtain ⟨ad300, e300, hx300_0, hx300_1, hx300_2, hx300_3, hx300_4⟩ := at_T50 HR0.out x8_2 p300 q300
      have hw300_4 := hx300_4
      have hw300_3 := hx300_3
      have hw300_2 := hx300_2
      have hw300_1 := hx300_1
      have hw300_0 := hx300_0
      cases e300
      replace hx300_0 := hup HB.out hx300_0
      replace hx300_1 := hup HB.out hx300_1
      replace hx300_2 := hup HB.out hx300_2
      replace hx300_3 := hup HB.out hx300_3
      replace hx300_4 := hup HB.out hx300_4
      replace p300 := eq_true p300
      replace q300 := eq_true q300
      have p301 : 0 ≤ (x9_2 : Int) := of_decide_eq_true (by first | (with_reducible assumption) | assumption)
      have q301 : x9_2 < (l1.length : Int) := of_decide_eq_true (by first | (with_reducible assumption) | assumption)
      obtain ⟨ad301, e301, hx301_0, hx301_1, hx301_2, hx301_3, hx301_4⟩ := at_T50 HR1.out x9_2 p301 q301
      have hw301_4 := hx301_4
      have hw301_3 := hx301_3
      have hw301_2 := hx301_2
      have hw301_1 := hx301_1
      have hw301_0 := hx301_0
      cases e301
      replace hx301_0 := hup HB.out hx301_0
      replace hx301_1 := hup HB.out hx301_1
      replace hx301_2 := hup HB.out hx301_2
      replace hx301_3 := hup HB.out hx301_3
      replace hx301_4 := hup HB.out hx301_4
      replace p301 := eq_true p301
      replace q301 := eq_true q301
      refine start_ (n := 10) (S := fun w' => w'.cell? (ad300.add ((x8_2).toNat * 5)) = some (.string ((rd_T50 l0 x8_2).f0)) ∧ w'.cell? ⟨(ad300.add ((x8_2).toNat * 5)).block, (ad300.add ((x8_2).toNat * 5)).off + 1, none⟩ = some (.int .i64 ((rd_T50 l0 x8_2).f1)) ∧ w'.cell? ⟨(ad300.add ((x8_2).toNat * 5)).block, (ad300.add ((x8_2).toNat * 5)).off + 2, none⟩ = some (.bool ((rd_T50 l0 x8_2).f2)) ∧ w'.cell? ⟨(ad300.add ((x8_2).toNat * 5)).block, (ad300.add ((x8_2).toNat * 5)).off + 3, none⟩ = some (.bool ((rd_T50 l0 x8_2).f3)) ∧ w'.cell? ⟨(ad300.add ((x8_2).toNat * 5)).block, (ad300.add ((x8_2).toNat * 5)).off + 4, none⟩ = some (.bool ((rd_T50 l0 x8_2).f4)) ∧ w'.cell? (ad301.add ((x9_2).toNat * 5)) = some (.string ((rd_T50 l1 x9_2).f0)) ∧ w'.cell? ⟨(ad301.add ((x9_2).toNat * 5)).block, (ad301.add ((x9_2).toNat * 5)).off + 1, none⟩ = some (.int .i64 ((rd_T50 l1 x9_2).f1)) ∧ w'.cell? ⟨(ad301.add ((x9_2).toNat * 5)).block, (ad301.add ((x9_2).toNat * 5)).off + 2, none⟩ = some (.bool ((rd_T50 l1 x9_2).f2)) ∧ w'.cell? ⟨(ad301.add ((x9_2).toNat * 5)).block, (ad301.add ((x9_2).toNat * 5)).off + 3, none⟩ = some (.bool ((rd_T50 l1 x9_2).f3)) ∧ w'.cell? ⟨(ad301.add ((x9_2).toNat * 5)).block, (ad301.add ((x9_2).toNat * 5)).off + 4, none⟩ = some (.bool ((rd_T50 l1 x9_2).f4))) (ds := []) #[false, false, false, false, false, false, false, false, false, false] (by kernel_rfl) rfl rfl ⟨(hup HB.out hw300_0), (hup HB.out hw300_1), (hup HB.out hw300_2), (hup HB.out hw300_3), (hup HB.out hw300_4), (hup HB.out hw301_0), (hup HB.out hw301_1), (hup HB.out hw301_2), (hup HB.out hw301_3), (hup HB.out hw301_4)⟩ (fun hHeld => ?_); refine with_tabW salchowref25_Script.tab8 salchowref25_Script.bits8 (fun HT_ HW_ => ?_)
      generalize wc.drew = w51 at HO_6 HO_7 HB hx300_0 hx300_1 hx300_2 hx300_3 hx300_4 hx301_0 hx301_1 hx301_2 hx301_3 hx301_4 hHeld ⊢
      refine pure_ (i := 0) (N := some 44) (v := ?_) (a' := ?_) (bs 10 1) rfl rfl (any_of HT_.out (by kernel_rfl)) (fun _ _ _ h => h) (Or.inl ⟨by rfl, ?_⟩) ?_ ?_
      rotate_left
      ·intro w'
       go_simp
       with_reducible rfl
      rotate_left
      ·simp only [Act.put, sA, sZ, sS, i64_w, i32_w]
       rfl
      refine pure_ (i := 1) (N := some 45) (v := ?_) (a' := ?_) (bs 10 3) rfl rfl (any_of HT_.out (by kernel_rfl)) (fun _ _ _ h => h) (Or.inl ⟨by rfl, ?_⟩) ?_ ?_
      rotate_left
      ·intro w'
       go_simp
       with_reducible rfl
      rotate_left
      ·simp only [Act.put, sA, sZ, sS, i64_w, i32_w]
       rfl
      refine pure_ (i := 2) (N := some 46) (v := ?_) (a' := ?_) (bs 10 7) rfl rfl (any_of HT_.out (by kernel_rfl)) (fun _ _ _ h => h) (Or.inl ⟨by rfl, ?_⟩) ?_ ?_
      rotate_left
      ·intro w'
       go_simp
       with_reducible rfl
      rotate_left
      ·simp only [Act.put, sA, sZ, sS, i64_w, i32_w]
       rfl
      refine pure_ (i := 4) (N := some 48) (v := ?_) (a' := ?_) (bs 10 23) rfl rfl (any_of HT_.out (by kernel_rfl)) (fun _ _ _ h => h) (Or.inl ⟨by rfl, ?_⟩) ?_ ?_
      rotate_left
      ·intro w'
       go_simp
       with_reducible rfl
      rotate_left
      ·simp only [Act.put, sA, sZ, sS, i64_w, i32_w]
       rfl
      refine pure_ (i := 5) (N := some 49) (v := ?_) (a' := ?_) (bs 10 55) rfl rfl (any_of HT_.out (by kernel_rfl)) (fun _ _ _ h => h) (Or.inl ⟨by rfl, ?_⟩) ?_ ?_
      rotate_left
      ·intro w'
       go_simp
       with_reducible rfl
      rotate_left
      ·simp only [Act.put, sA, sZ, sS, i64_w, i32_w]
       rfl
      refine pure_ (i := 6) (N := some 50) (v := ?_) (a' := ?_) (bs 10 119) rfl rfl (any_of HT_.out (by kernel_rfl)) (fun _ _ _ h => h) (Or.inl ⟨by rfl, ?_⟩) ?_ ?_
      rotate_left
      ·intro w'
       go_simp
       with_reducible rfl
      rotate_left
      ·simp only [Act.put, sA, sZ, sS, i64_w, i32_w]
       rfl
      refine take_ (i := 3) (N := some 47) (v := ?_) (a' := ?_) (bs 10 127) rfl rfl (take_ofW HT_.out HW_.out (by kernel_rfl)) (fun _ _ _ h => h) (Or.inl ⟨by rfl, ?_⟩) hHeld ?_ ?_
      rotate_left
      ·rintro w' ⟨s0, s1, s2, s3, s4, s5, s6, s7, s8, s9⟩
       go_simp
       with_reducible rfl
      rotate_left
      ·simp only [Act.put, sA, sZ, sS, i64_w, i32_w]
       rfl
      refine take_ (i := 7) (N := some 51) (v := ?_) (a' := ?_) (bs 10 255) rfl rfl (take_ofW HT_.out HW_.out (by kernel_rfl)) (fun _ _ _ h => h) (Or.inl ⟨by rfl, ?_⟩) hHeld ?_ ?_
      rotate_left
      ·rintro w' ⟨s0, s1, s2, s3, s4, s5, s6, s7, s8, s9⟩
       go_simp
       with_reducible rfl
      rotate_left
      ·simp only [Act.put, sA, sZ, sS, i64_w, i32_w]
       rfl
      refine one_ (i := 8) (N := some 52) (bs 10 511) rfl rfl (one_of HT_.out (by kernel_rfl)) (by decide) (fun K hK => ?_)
      refine goes_ Try.func36 (by kernel_rfl) rfl #[.agg #[.string ((rd_T50 l0 x8_2).f0), .int .i64 ((rd_T50 l0 x8_2).f1), .bool ((rd_T50 l0 x8_2).f2), .bool ((rd_T50 l0 x8_2).f3), .bool ((rd_T50 l0 x8_2).f4)], .agg #[.string ((rd_T50 l1 x9_2).f0), .int .i64 ((rd_T50 l1 x9_2).f1), .bool ((rd_T50 l1 x9_2).f2), .bool ((rd_T50 l1 x9_2).f3), .bool ((rd_T50 l1 x9_2).f4)]] (by rfl) rfl rfl (by (try simp only [List.map_toArray, List.map_cons, List.map_nil]); first | done | rfl | (simp only [List.length_drop, List.length_take]; rfl)) ?_
      with_reducible refine (salchowref25_Turn.calls ((rd_T50 l0 x8_2).f0) ((rd_T50 l0 x8_2).f1) ((rd_T50 l0 x8_2).f2) ((rd_T50 l0 x8_2).f3) ((rd_T50 l0 x8_2).f4) ((rd_T50 l1 x9_2).f0) ((rd_T50 l1 x9_2).f1) ((rd_T50 l1 x9_2).f2) ((rd_T50 l1 x9_2).f3) ((rd_T50 l1 x9_2).f4) t302 _ A20.out).mono ?_
      rintro e w52 ⟨rfl, hb⟩
      refine ⟨_, rfl, ?_⟩
      have n0_ := aS (Kd.S_below (by (with_reducible repeat (first | apply Kd.S_alloc | apply Kd.S_drewN | apply Kd.S_drew)); exact HO_6.out) hb)
      have n1_ := aS (Kd.R_below (by exact rel <| HO_7.out) hb)
      have n2_ := aS (below_step (by first | exact bel HB.out | exact HB.out) hb)
      clear HO_6
      clear HO_7
      clear HB
      have HO_6 := n0_
      have HO_7 := n1_
      have HB := n2_
      clear n0_ n1_ n2_
      (try clear hb)
      (try clear hb2)
      (try clear hk)
      (try clear hi)
      refine hK.out _ _ ⟨(hup HB.out hw300_0), (hup HB.out hw300_1), (hup HB.out hw300_2), (hup HB.out hw300_3), (hup HB.out hw300_4), (hup HB.out hw301_0), (hup HB.out hw301_1), (hup HB.out hw301_2), (hup HB.out hw301_3), (hup HB.out hw301_4)⟩ (fun hHeld => ?_)
      clear hK K
      refine norm_ (a' := ?_) ?_ ?_
      rotate_left
      ·show Act.put _ (some 52) _ = _
       simp only [Act.put, sA, sZ, sS, i64_w, i32_w]
       rfl
      refine pure_ (i := 9) (N := some 10) (v := ?_) (a' := ?_) (bs 10 1023) rfl rfl (any_of HT_.out (by kernel_rfl)) (fun _ _ _ h => h) (Or.inl ⟨by rfl, ?_⟩) ?_ ?_
      rotate_left
      ·intro w'
       go_simp
       with_reducible rfl
      rotate_left
      ·simp only [Act.put, sA, sZ, sS, i64_w, i32_w]
       rfl
      refine done_ (done_of HT_.out (by kernel_rfl)) ?_
      try go_wp2
      have n0_ := aS (Kd.S_drew HO_6.out)
      have n1_ := aS (Kd.R_drew HO_7.out)
      have n2_ := aS (below_drew1 HB.out)
      clear HO_6
      clear HO_7
      clear HB
      have HO_6 := n0_
      have HO_7 := n1_
      have HB := n2_
      clear n0_ n1_ n2_
      obtain ⟨Ao54, co54, eo54⟩ := Kd.S_slice HO_6.out
      (first | subst eo54 | (injection eo54 with f1_ f2_ f3_; have f4_ := f1_.symm; have f5_ := f3_.symm; clear f1_ f2_ f3_; subst f4_; subst f5_))
      have p303 : 0 ≤ (x8_2 : Int) := of_decide_eq_true (by first | (with_reducible assumption) | assumption)
      have q303 : x8_2 < (t294.length : Int) := of_decide_eq_true (by first | (with_reducible assumption) | assumption)
      obtain ⟨ad303, A303_0, c303_0, e303, hx303_0, hl303_0, hi303_0⟩ := at_L6 (Kd.S_reads' HO_6.out).2.2 x8_2 p303 q303
      cases e303
      obtain ⟨ce303, hce303, hMe303, hcc303⟩ := Kd.S_get HO_6.out [] x8_2 p303 (by first | exact q303 | exact of_decide_eq_true (by first | (with_reducible assumption) | assumption) | (have e_ := (Kd.S_reads' HO_6.out).1; omega))
      obtain ⟨ve303_0, rfl, ge303_0⟩ := hMe303
      have hv303_0 := hcc303 0 _ rfl
      rw [Nat.add_zero, show ((Kd.slice 3 (Kd.int .i64))).sz = 1 from rfl, Nat.mul_one] at hv303_0
      replace hv303_0 := Option.some.inj (hv303_0.symm.trans hx303_0)
      rw [hv303_0] at ge303_0
      have HL303_0 := aS (show Kd.R (Kd.int .i64) 3 _ _ _ _ (rd_L6 t294 x8_2) from ge303_0)
      clear hv303_0 ge303_0
      clear hcc303 hce303
      have HR303_0 := aS hi303_0
      have HC303_0 := aS hl303_0
      clear hi303_0 hl303_0
      replace p303 := eq_true p303
      replace q303 := eq_true q303
      have p304 : 0 ≤ (x9_2 : Int) := of_decide_eq_true (by first | (with_reducible assumption) | assumption)
      have q304 : x9_2 < ((rd_L6 t294 x8_2).length : Int) := of_decide_eq_true (by first | (with_reducible assumption) | assumption)
      obtain ⟨ad304, e304, hx304_0⟩ := Kd.at_int (by repeat (first | (with_reducible exact HR303_0.out) | (with_reducible apply Kd.C_alloc) | (with_reducible apply Kd.C_drewN) | (with_reducible apply Kd.C_drew) | exact HR303_0.out)) x9_2 p304 q304
      cases e304
      replace p304 := eq_true p304
      replace q304 := eq_true q304
      have p305 : 0 ≤ ((ji23) : Int) := of_decide_eq_true (by first | (with_reducible assumption) | assumption)
      have q305 : (ji23) < (t294.length : Int) := of_decide_eq_true (by first | (with_reducible assumption) | assumption)
      obtain ⟨ad305, A305_0, c305_0, e305, hx305_0, hl305_0, hi305_0⟩ := at_L6 (Kd.S_reads' HO_6.out).2.2 (ji23) p305 q305
      obtain rfl : ad303 = ad305 := (by injection e305)
      obtain ⟨ce305, hce305, hMe305, hcc305⟩ := Kd.S_get HO_6.out [] (ji23) p305 (by first | exact q305 | exact of_decide_eq_true (by first | (with_reducible assumption) | assumption) | (have e_ := (Kd.S_reads' HO_6.out).1; omega))
      obtain ⟨ve305_0, rfl, ge305_0⟩ := hMe305
      have hv305_0 := hcc305 0 _ rfl
      rw [Nat.add_zero, show ((Kd.slice 3 (Kd.int .i64))).sz = 1 from rfl, Nat.mul_one] at hv305_0
      replace hv305_0 := Option.some.inj (hv305_0.symm.trans hx305_0)
      rw [hv305_0] at ge305_0
      have HL305_0 := aS (show Kd.R (Kd.int .i64) 3 _ _ _ _ (rd_L6 t294 (ji23)) from ge305_0)
      clear hv305_0 ge305_0
      clear hcc305 hce305
      have HR305_0 := aS hi305_0
      have HC305_0 := aS hl305_0
      clear hi305_0 hl305_0
      replace p305 := eq_true p305
      replace q305 := eq_true q305
      have p306 : 0 ≤ ((ji26) : Int) := of_decide_eq_true (by first | (with_reducible assumption) | assumption)
      have q306 : (ji26) < ((rd_L6 t294 (ji23)).length : Int) := of_decide_eq_true (by first | (with_reducible assumption) | assumption)
      obtain ⟨ad306, e306, hx306_0⟩ := Kd.at_int (by repeat (first | (with_reducible exact HR305_0.out) | (with_reducible apply Kd.C_alloc) | (with_reducible apply Kd.C_drewN) | (with_reducible apply Kd.C_drew) | exact HR305_0.out)) (ji26) p306 q306
      cases e306
      replace p306 := eq_true p306
      replace q306 := eq_true q306
      refine start_ (n := 20) (S := fun w' => w'.cell? (ad303.add (x8_2).toNat) = some (.slice (some ad304) (rd_L6 t294 x8_2).length c303_0) ∧ w'.cell? (ad304.add (x9_2).toNat) = some (.int .i64 (rd (rd_L6 t294 x8_2) x9_2)) ∧ w'.cell? (ad303.add ((ji23)).toNat) = some (.slice (some ad306) (rd_L6 t294 (ji23)).length c305_0) ∧ w'.cell? (ad306.add ((ji26)).toNat) = some (.int .i64 (rd (rd_L6 t294 (ji23)) (ji26)))) (ds := []) #[false, false, false, false, false, false, false, false, false, false, false, false, false, false, false, false, false, false, false, false] (by kernel_rfl) rfl rfl ⟨hx303_0, hx304_0, hx305_0, hx306_0⟩ (fun hHeld => ?_); refine with_tabW salchowref25_Script.tab9 salchowref25_Script.bits9 (fun HT_ HW_ => ?_)
      generalize w52.drew = w53 at HO_6 HO_7 HB HL303_0 HL305_0 HR303_0 HR305_0 hx303_0 hx304_0 hx305_0 hx306_0 hHeld ⊢
      refine pure_ (i := 0) (N := some 53) (v := ?_) (a' := ?_) (bs 20 1) rfl rfl (any_of HT_.out (by kernel_rfl)) (fun _ _ _ h => h) (Or.inl ⟨by rfl, ?_⟩) ?_ ?_
      rotate_left
      ·intro w'
       go_simp
       with_reducible rfl
      rotate_left
      ·simp only [Act.put, sA, sZ, sS, i64_w, i32_w]
       rfl
      refine pure_ (i := 1) (N := some 54) (v := ?_) (a' := ?_) (bs 20 3) rfl rfl (any_of HT_.out (by kernel_rfl)) (fun _ _ _ h => h) (Or.inl ⟨by rfl, ?_⟩) ?_ ?_
      rotate_left
      ·intro w'
       go_simp
       with_reducible rfl
      rotate_left
      ·simp only [Act.put, sA, sZ, sS, i64_w, i32_w]
       rfl
      refine pure_ (i := 2) (N := some 55) (v := ?_) (a' := ?_) (bs 20 7) rfl rfl (any_of HT_.out (by kernel_rfl)) (fun _ _ _ h => h) (Or.inl ⟨by rfl, ?_⟩) ?_ ?_
      rotate_left
      ·intro w'
       go_simp
       with_reducible rfl
      rotate_left
      ·simp only [Act.put, sA, sZ, sS, i64_w, i32_w]
       rfl
      refine pure_ (i := 4) (N := some 57) (v := ?_) (a' := ?_) (bs 20 23) rfl rfl (any_of HT_.out (by kernel_rfl)) (fun _ _ _ h => h) (Or.inl ⟨by rfl, ?_⟩) ?_ ?_
      rotate_left
      ·intro w'
       go_simp
       with_reducible rfl
      rotate_left
      ·simp only [Act.put, sA, sZ, sS, i64_w, i32_w]
       rfl
      refine pure_ (i := 7) (N := some 60) (v := ?_) (a' := ?_) (bs 20 151) rfl rfl (any_of HT_.out (by kernel_rfl)) (fun _ _ _ h => h) (Or.inl ⟨by rfl, ?_⟩) ?_ ?_
      rotate_left
      ·intro w'
       go_simp
       with_reducible rfl
      rotate_left
      ·simp only [Act.put, sA, sZ, sS, i64_w, i32_w]
       rfl
      refine pure_ (i := 8) (N := some 61) (v := ?_) (a' := ?_) (bs 20 407) rfl rfl (any_of HT_.out (by kernel_rfl)) (fun _ _ _ h => h) (Or.inl ⟨by rfl, ?_⟩) ?_ ?_
      rotate_left
      ·intro w'
       go_simp
       with_reducible rfl
      rotate_left
      ·simp only [Act.put, sA, sZ, sS, i64_w, i32_w]
       rfl
      refine pure_ (i := 9) (N := some 62) (v := ?_) (a' := ?_) (bs 20 919) rfl rfl (any_of HT_.out (by kernel_rfl)) (fun _ _ _ h => h) (Or.inl ⟨by rfl, ?_⟩) ?_ ?_
      rotate_left
      ·intro w'
       go_simp
       with_reducible rfl
      rotate_left
      ·simp only [Act.put, sA, sZ, sS, i64_w, i32_w]
       rfl
      refine pure_ (i := 10) (N := some 63) (v := ?_) (a' := ?_) (bs 20 1943) rfl rfl (any_of HT_.out (by kernel_rfl)) (fun _ _ _ h => h) (Or.inl ⟨by rfl, ?_⟩) ?_ ?_
      rotate_left
      ·intro w'
       go_simp
       with_reducible rfl
      rotate_left
      ·simp only [Act.put, sA, sZ, sS, i64_w, i32_w]
       rfl
      refine pure_ (i := 12) (N := some 65) (v := ?_) (a' := ?_) (bs 20 6039) rfl rfl (any_of HT_.out (by kernel_rfl)) (fun _ _ _ h => h) (Or.inl ⟨by rfl, ?_⟩) ?_ ?_
      rotate_left
      ·intro w'
       go_simp
       with_reducible rfl
      rotate_left
      ·simp only [Act.put, sA, sZ, sS, i64_w, i32_w]
       rfl
      refine pure_ (i := 13) (N := some 66) (v := ?_) (a' := ?_) (bs 20 14231) rfl rfl (any_of HT_.out (by kernel_rfl)) (fun _ _ _ h => h) (Or.inl ⟨by rfl, ?_⟩) ?_ ?_
      rotate_left
      ·intro w'
       go_simp
       with_reducible rfl
      rotate_left
      ·simp only [Act.put, sA, sZ, sS, i64_w, i32_w]
       rfl
      refine pure_ (i := 16) (N := some 69) (v := ?_) (a' := ?_) (bs 20 79767) rfl rfl (any_of HT_.out (by kernel_rfl)) (fun _ _ _ h => h) (Or.inl ⟨by rfl, ?_⟩) ?_ ?_
      rotate_left
      ·intro w'
       go_simp
       with_reducible rfl
      rotate_left
      ·simp only [Act.put, sA, sZ, sS, i64_w, i32_w]
       rfl
      refine take_ (i := 3) (N := some 56) (v := ?_) (a' := ?_) (bs 20 79775) rfl rfl (take_ofW HT_.out HW_.out (by kernel_rfl)) (fun _ _ _ h => h) (Or.inl ⟨by rfl, ?_⟩) hHeld ?_ ?_
      rotate_left
      ·rintro w' ⟨s0, s1, s2, s3⟩
       go_simp
       with_reducible rfl
      rotate_left
      ·simp only [Act.put, sA, sZ, sS, i64_w, i32_w]
       rfl
      refine pure_ (i := 5) (N := some 58) (v := ?_) (a' := ?_) (bs 20 79807) rfl rfl (any_of HT_.out (by kernel_rfl)) (fun _ _ _ h => h) (Or.inl ⟨by rfl, ?_⟩) ?_ ?_
      rotate_left
      ·intro w'
       go_simp
       with_reducible rfl
      rotate_left
      ·simp only [Act.put, sA, sZ, sS, i64_w, i32_w]
       rfl
      refine take_ (i := 6) (N := some 59) (v := ?_) (a' := ?_) (bs 20 79871) rfl rfl (take_ofW HT_.out HW_.out (by kernel_rfl)) (fun _ _ _ h => h) (Or.inl ⟨by rfl, ?_⟩) hHeld ?_ ?_
      rotate_left
      ·rintro w' ⟨s0, s1, s2, s3⟩
       go_simp
       with_reducible rfl
      rotate_left
      ·simp only [Act.put, sA, sZ, sS, i64_w, i32_w]
       rfl
      refine take_ (i := 11) (N := some 64) (v := ?_) (a' := ?_) (bs 20 81919) rfl rfl (take_ofW HT_.out HW_.out (by kernel_rfl)) (fun _ _ _ h => h) (Or.inl ⟨by rfl, ?_⟩) hHeld ?_ ?_
      rotate_left
      ·rintro w' ⟨s0, s1, s2, s3⟩
       go_simp
       with_reducible rfl
      rotate_left
      ·simp only [Act.put, sA, sZ, sS, i64_w, i32_w]
       rfl
      refine pure_ (i := 14) (N := some 67) (v := ?_) (a' := ?_) (bs 20 98303) rfl rfl (any_of HT_.out (by kernel_rfl)) (fun _ _ _ h => h) (Or.inl ⟨by rfl, ?_⟩) ?_ ?_
      rotate_left
      ·intro w'
       go_simp
       with_reducible rfl
      rotate_left
      ·simp only [Act.put, sA, sZ, sS, i64_w, i32_w]
       rfl
      refine take_ (i := 15) (N := some 68) (v := ?_) (a' := ?_) (bs 20 131071) rfl rfl (take_ofW HT_.out HW_.out (by kernel_rfl)) (fun _ _ _ h => h) (Or.inl ⟨by rfl, ?_⟩) hHeld ?_ ?_
      rotate_left
      ·rintro w' ⟨s0, s1, s2, s3⟩
       go_simp
       with_reducible rfl
      rotate_left
      ·simp only [Act.put, sA, sZ, sS, i64_w, i32_w]
       rfl
      refine one_ (i := 17) (N := some 70) (bs 20 262143) rfl rfl (one_of HT_.out (by kernel_rfl)) (by decide) (fun K hK => ?_)
      refine goes_ Try.func31 (by kernel_rfl) rfl #[.int .i64 t302] (by rfl) rfl rfl (by (try simp only [List.map_toArray, List.map_cons, List.map_nil]); first | done | rfl | (simp only [List.length_drop, List.length_take]; rfl)) ?_
      with_reducible refine (salchowref25_Cost.calls kj12 t302 t307 _ A29.out).mono ?_
      rintro e w' ⟨rfl, ⟨nd, rfl⟩⟩
      refine ⟨_, rfl, ?_⟩
      refine hK.out _ _ ⟨hHeld.1, hHeld.2.1, hHeld.2.2.1, hHeld.2.2.2⟩ (fun hHeld => ?_)
      clear hK K
      refine norm_ (a' := ?_) ?_ ?_
      rotate_left
      ·show Act.put _ (some 70) _ = _
       simp only [Act.put, sA, sZ, sS, i64_w, i32_w]
       rfl
      refine pure_ (i := 18) (N := some 71) (v := ?_) (a' := ?_) (bs 20 524287) rfl rfl (any_of HT_.out (by kernel_rfl)) (fun _ _ _ h => h) (Or.inl ⟨by rfl, ?_⟩) ?_ ?_
      rotate_left
      ·intro w'
       go_simp
       with_reducible rfl
      rotate_left
      ·simp only [Act.put, sA, sZ, sS, i64_w, i32_w]
       rfl
      refine pure_ (i := 19) (N := some 72) (v := ?_) (a' := ?_) (bs 20 1048575) rfl rfl (any_of HT_.out (by kernel_rfl)) (fun _ _ _ h => h) (Or.inl ⟨by rfl, ?_⟩) ?_ ?_
      rotate_left
      ·intro w'
       go_simp
       with_reducible rfl
      rotate_left
      ·simp only [Act.put, sA, sZ, sS, i64_w, i32_w]
       rfl
      refine done_ (done_of HT_.out (by kernel_rfl)) ?_
      try go_wp2
      (try (rw [drewN_self w53]; generalize hq_ : World.drewN w53 _ = w53; have n0_ : Aside0 (Kd.R (Kd.int .i64) 3 w53 w.heap.size (fun k_ => some k_ ≠ (.slice (some ad303) t294.length co54 : Value).ownBlock) (.slice (some ad304) (rd_L6 t294 x8_2).length c303_0) (rd_L6 t294 x8_2)) := ⟨by rw [← hq_]; exact (by exact rel <| Kd.R_mono HL303_0.out (fun _ hk => hk.2))⟩; have n1_ : Aside0 (Kd.R (Kd.int .i64) 3 w53 w.heap.size (fun k_ => some k_ ≠ (.slice (some ad303) t294.length co54 : Value).ownBlock) (.slice (some ad306) (rd_L6 t294 (ji23)).length c305_0) (rd_L6 t294 (ji23))) := ⟨by rw [← hq_]; exact (by exact rel <| Kd.R_mono HL305_0.out (fun _ hk => hk.2))⟩; have n2_ : Aside0 (Kd.S (Kd.slice 3 (Kd.int .i64)) 45 w53 w.heap.size (fun _ => True) (.slice (some ad303) t294.length co54) t294) := ⟨by rw [← hq_]; exact (by (with_reducible repeat (first | apply Kd.S_alloc | apply Kd.S_drewN | apply Kd.S_drew)); exact HO_6.out)⟩; have n3_ : Aside0 (Kd.R k58 58 w53 w.heap.size (fun _ => True) u7 x7_2) := ⟨by rw [← hq_]; exact (by exact rel <| HO_7.out)⟩; have n4_ : Aside0 (Below w.heap.size w w53) := ⟨by rw [← hq_]; exact (by first | exact bel HB.out | exact HB.out)⟩; have n5_ : Aside0 (Kd.C (Kd.int .i64) w53 (some ad304) (rd_L6 t294 x8_2).length (rd_L6 t294 x8_2)) := ⟨by rw [← hq_]; exact (by repeat (first | (with_reducible exact HR303_0.out) | (with_reducible apply Kd.C_alloc) | (with_reducible apply Kd.C_drewN) | (with_reducible apply Kd.C_drew) | exact HR303_0.out))⟩; have n6_ : Aside0 (Kd.C (Kd.int .i64) w53 (some ad306) (rd_L6 t294 (ji23)).length (rd_L6 t294 (ji23))) := ⟨by rw [← hq_]; exact (by repeat (first | (with_reducible exact HR305_0.out) | (with_reducible apply Kd.C_alloc) | (with_reducible apply Kd.C_drewN) | (with_reducible apply Kd.C_drew) | exact HR305_0.out))⟩; clear HL303_0 HL305_0 HO_6 HO_7 HB HR303_0 HR305_0 hq_; have HL303_0 := n0_; have HL305_0 := n1_; have HO_6 := n2_; have HO_7 := n3_; have HB := n4_; have HR303_0 := n5_; have HR305_0 := n6_; clear n0_ n1_ n2_ n3_ n4_ n5_ n6_))
      have n0_ := aS (Kd.S_drew HO_6.out)
      have n1_ := aS (Kd.R_drew HO_7.out)
      have n2_ := aS (Kd.R_drew HL303_0.out)
      have n3_ := aS (Kd.R_drew HL305_0.out)
      have n4_ := aS (Kd.C_drew HR303_0.out)
      have n5_ := aS (Kd.C_drew HR305_0.out)
      have n6_ := aS (below_drew1 HB.out)
      clear HO_6
      clear HO_7
      clear HL303_0
      clear HL305_0
      clear HR303_0
      clear HR305_0
      clear HB
      have HO_6 := n0_
      have HO_7 := n1_
      have HL303_0 := n2_
      have HL305_0 := n3_
      have HR303_0 := n4_
      have HR305_0 := n5_
      have HB := n6_
      clear n0_ n1_ n2_ n3_ n4_ n5_ n6_
      have p316 : 0 ≤ (x8_2 : Int) := of_decide_eq_true (by first | (with_reducible assumption) | assumption)
      have q316 : x8_2 < (t294.length : Int) := of_decide_eq_true (by first | (with_reducible assumption) | assumption)
      obtain ⟨ad316, A316_0, c316_0, e316, hx316_0, hl316_0, hi316_0⟩ := at_L6 (Kd.S_reads' HO_6.out).2.2 x8_2 p316 q316
      obtain rfl : ad303 = ad316 := (by injection e316)
      obtain ⟨ce316, hce316, hMe316, hcc316⟩ := Kd.S_get HO_6.out [] x8_2 p316 (by first | exact q316 | exact of_decide_eq_true (by first | (with_reducible assumption) | assumption) | (have e_ := (Kd.S_reads' HO_6.out).1; omega))
      obtain ⟨ve316_0, rfl, ge316_0⟩ := hMe316
      have hv316_0 := hcc316 0 _ rfl
      rw [Nat.add_zero, show ((Kd.slice 3 (Kd.int .i64))).sz = 1 from rfl, Nat.mul_one] at hv316_0
      replace hv316_0 := Option.some.inj (hv316_0.symm.trans hx316_0)
      rw [hv316_0] at ge316_0
      have HL316_0 := aS (show Kd.R (Kd.int .i64) 3 _ _ _ _ (rd_L6 t294 x8_2) from ge316_0)
      clear hv316_0 ge316_0
      clear hcc316 hce316
      have HR316_0 := aS hi316_0
      have HC316_0 := aS hl316_0
      clear hi316_0 hl316_0
      replace p316 := eq_true p316
      replace q316 := eq_true q316
      have p317 : 0 ≤ (x9_2 : Int) := of_decide_eq_true (by first | (with_reducible assumption) | assumption)
      have q317 : x9_2 < ((rd_L6 t294 x8_2).length : Int) := of_decide_eq_true (by first | (with_reducible assumption) | assumption)
      obtain ⟨ad317, e317, hx317_0⟩ := Kd.at_int (by repeat (first | (with_reducible exact HR316_0.out) | (with_reducible apply Kd.C_alloc) | (with_reducible apply Kd.C_drewN) | (with_reducible apply Kd.C_drew) | exact HR316_0.out)) x9_2 p317 q317
      cases e317
      replace p317 := eq_true p317
      replace q317 := eq_true q317
      have p318 : 0 ≤ (x8_2 : Int) := of_decide_eq_true (by first | (with_reducible assumption) | assumption)
      have q318 : x8_2 < (t294.length : Int) := of_decide_eq_true (by first | (with_reducible assumption) | assumption)
      obtain ⟨ad318, A318_0, c318_0, e318, hx318_0, hl318_0, hi318_0⟩ := at_L6 (Kd.S_reads' HO_6.out).2.2 x8_2 p318 q318
      obtain rfl : ad303 = ad318 := (by injection e318)
      obtain ⟨ce318, hce318, hMe318, hcc318⟩ := Kd.S_get HO_6.out [] x8_2 p318 (by first | exact q318 | exact of_decide_eq_true (by first | (with_reducible assumption) | assumption) | (have e_ := (Kd.S_reads' HO_6.out).1; omega))
      obtain ⟨ve318_0, rfl, ge318_0⟩ := hMe318
      have hv318_0 := hcc318 0 _ rfl
      rw [Nat.add_zero, show ((Kd.slice 3 (Kd.int .i64))).sz = 1 from rfl, Nat.mul_one] at hv318_0
      replace hv318_0 := Option.some.inj (hv318_0.symm.trans hx318_0)
      rw [hv318_0] at ge318_0
      have HL318_0 := aS (show Kd.R (Kd.int .i64) 3 _ _ _ _ (rd_L6 t294 x8_2) from ge318_0)
      clear hv318_0 ge318_0
      clear hcc318 hce318
      have HR318_0 := aS hi318_0
      have HC318_0 := aS hl318_0
      clear hi318_0 hl318_0
      replace p318 := eq_true p318
      replace q318 := eq_true q318
      have ea_ := Option.some.inj (hx316_0.symm.trans hx318_0)
      injection ea_ with ea_ en_ ec_
      subst ea_
      subst ec_
      clear en_
      have p319 : 0 ≤ ((ji26) : Int) := of_decide_eq_true (by first | (with_reducible assumption) | assumption)
      have q319 : (ji26) < ((rd_L6 t294 x8_2).length : Int) := of_decide_eq_true (by first | (with_reducible assumption) | assumption)
      obtain ⟨ad319, e319, hx319_0⟩ := Kd.at_int (by repeat (first | (with_reducible exact HR318_0.out) | (with_reducible apply Kd.C_alloc) | (with_reducible apply Kd.C_drewN) | (with_reducible apply Kd.C_drew) | exact HR318_0.out)) (ji26) p319 q319
      cases e319
      replace p319 := eq_true p319
      replace q319 := eq_true q319
      refine start_ (n := 23) (S := fun w' => w'.cell? (ad303.add (x8_2).toNat) = some (.slice (some ad317) (rd_L6 t294 x8_2).length c316_0) ∧ w'.cell? (ad317.add (x9_2).toNat) = some (.int .i64 (rd (rd_L6 t294 x8_2) x9_2)) ∧ w'.cell? (ad303.add (x8_2).toNat) = some (.slice (some ad317) (rd_L6 t294 x8_2).length c316_0) ∧ w'.cell? (ad317.add ((ji26)).toNat) = some (.int .i64 (rd (rd_L6 t294 x8_2) (ji26)))) (ds := []) #[false, false, false, false, false, false, false, false, false, false, false, false, false, false, false, false, false, false, false, false, false, false, false] (by kernel_rfl) rfl rfl ⟨hx316_0, hx317_0, hx318_0, hx319_0⟩ (fun hHeld => ?_); refine with_tabW salchowref25_Script.tab15 salchowref25_Script.bits15 (fun HT_ HW_ => ?_)
      generalize w53.drew = w55 at HO_6 HO_7 HL303_0 HL305_0 HR303_0 HR305_0 HB HL316_0 HL318_0 HR316_0 HR318_0 hx316_0 hx317_0 hx318_0 hx319_0 hHeld ⊢
      refine pure_ (i := 0) (N := some 90) (v := ?_) (a' := ?_) (bs 23 1) rfl rfl (any_of HT_.out (by kernel_rfl)) (fun _ _ _ h => h) (Or.inl ⟨by rfl, ?_⟩) ?_ ?_
      rotate_left
      ·intro w'
       go_simp
       with_reducible rfl
      rotate_left
      ·simp only [Act.put, sA, sZ, sS, i64_w, i32_w]
       rfl
      refine pure_ (i := 1) (N := some 91) (v := ?_) (a' := ?_) (bs 23 3) rfl rfl (any_of HT_.out (by kernel_rfl)) (fun _ _ _ h => h) (Or.inl ⟨by rfl, ?_⟩) ?_ ?_
      rotate_left
      ·intro w'
       go_simp
       with_reducible rfl
      rotate_left
      ·simp only [Act.put, sA, sZ, sS, i64_w, i32_w]
       rfl
      refine pure_ (i := 2) (N := some 92) (v := ?_) (a' := ?_) (bs 23 7) rfl rfl (any_of HT_.out (by kernel_rfl)) (fun _ _ _ h => h) (Or.inl ⟨by rfl, ?_⟩) ?_ ?_
      rotate_left
      ·intro w'
       go_simp
       with_reducible rfl
      rotate_left
      ·simp only [Act.put, sA, sZ, sS, i64_w, i32_w]
       rfl
      refine pure_ (i := 3) (N := some 93) (v := ?_) (a' := ?_) (bs 23 15) rfl rfl (any_of HT_.out (by kernel_rfl)) (fun _ _ _ h => h) (Or.inl ⟨by rfl, ?_⟩) ?_ ?_
      rotate_left
      ·intro w'
       go_simp
       with_reducible rfl
      rotate_left
      ·simp only [Act.put, sA, sZ, sS, i64_w, i32_w]
       rfl
      refine pure_ (i := 4) (N := some 94) (v := ?_) (a' := ?_) (bs 23 31) rfl rfl (any_of HT_.out (by kernel_rfl)) (fun _ _ _ h => h) (Or.inl ⟨by rfl, ?_⟩) ?_ ?_
      rotate_left
      ·intro w'
       go_simp
       with_reducible rfl
      rotate_left
      ·simp only [Act.put, sA, sZ, sS, i64_w, i32_w]
       rfl
      refine pure_ (i := 5) (N := some 95) (v := ?_) (a' := ?_) (bs 23 63) rfl rfl (any_of HT_.out (by kernel_rfl)) (fun _ _ _ h => h) (Or.inl ⟨by rfl, ?_⟩) ?_ ?_
      rotate_left
      ·intro w'
       go_simp
       with_reducible rfl
      rotate_left
      ·simp only [Act.put, sA, sZ, sS, i64_w, i32_w]
       rfl
      refine pure_ (i := 6) (N := some 96) (v := ?_) (a' := ?_) (bs 23 127) rfl rfl (any_of HT_.out (by kernel_rfl)) (fun _ _ _ h => h) (Or.inl ⟨by rfl, ?_⟩) ?_ ?_
      rotate_left
      ·intro w'
       go_simp
       with_reducible rfl
      rotate_left
      ·simp only [Act.put, sA, sZ, sS, i64_w, i32_w]
       rfl
      refine pure_ (i := 7) (N := some 97) (v := ?_) (a' := ?_) (bs 23 255) rfl rfl (any_of HT_.out (by kernel_rfl)) (fun _ _ _ h => h) (Or.inl ⟨by rfl, ?_⟩) ?_ ?_
      rotate_left
      ·intro w'
       go_simp
       with_reducible rfl
      rotate_left
      ·simp only [Act.put, sA, sZ, sS, i64_w, i32_w]
       rfl
      refine pure_ (i := 9) (N := some 99) (v := ?_) (a' := ?_) (bs 23 767) rfl rfl (any_of HT_.out (by kernel_rfl)) (fun _ _ _ h => h) (Or.inl ⟨by rfl, ?_⟩) ?_ ?_
      rotate_left
      ·intro w'
       go_simp
       with_reducible rfl
      rotate_left
      ·simp only [Act.put, sA, sZ, sS, i64_w, i32_w]
       rfl
      refine pure_ (i := 12) (N := some 102) (v := ?_) (a' := ?_) (bs 23 4863) rfl rfl (any_of HT_.out (by kernel_rfl)) (fun _ _ _ h => h) (Or.inl ⟨by rfl, ?_⟩) ?_ ?_
      rotate_left
      ·intro w'
       go_simp
       with_reducible rfl
      rotate_left
      ·simp only [Act.put, sA, sZ, sS, i64_w, i32_w]
       rfl
      refine pure_ (i := 13) (N := some 103) (v := ?_) (a' := ?_) (bs 23 13055) rfl rfl (any_of HT_.out (by kernel_rfl)) (fun _ _ _ h => h) (Or.inl ⟨by rfl, ?_⟩) ?_ ?_
      rotate_left
      ·intro w'
       go_simp
       with_reducible rfl
      rotate_left
      ·simp only [Act.put, sA, sZ, sS, i64_w, i32_w]
       rfl
      refine pure_ (i := 14) (N := some 104) (v := ?_) (a' := ?_) (bs 23 29439) rfl rfl (any_of HT_.out (by kernel_rfl)) (fun _ _ _ h => h) (Or.inl ⟨by rfl, ?_⟩) ?_ ?_
      rotate_left
      ·intro w'
       go_simp
       with_reducible rfl
      rotate_left
      ·simp only [Act.put, sA, sZ, sS, i64_w, i32_w]
       rfl
      refine pure_ (i := 16) (N := some 106) (v := ?_) (a' := ?_) (bs 23 94975) rfl rfl (any_of HT_.out (by kernel_rfl)) (fun _ _ _ h => h) (Or.inl ⟨by rfl, ?_⟩) ?_ ?_
      rotate_left
      ·intro w'
       go_simp
       with_reducible rfl
      rotate_left
      ·simp only [Act.put, sA, sZ, sS, i64_w, i32_w]
       rfl
      refine pure_ (i := 17) (N := some 107) (v := ?_) (a' := ?_) (bs 23 226047) rfl rfl (any_of HT_.out (by kernel_rfl)) (fun _ _ _ h => h) (Or.inl ⟨by rfl, ?_⟩) ?_ ?_
      rotate_left
      ·intro w'
       go_simp
       with_reducible rfl
      rotate_left
      ·simp only [Act.put, sA, sZ, sS, i64_w, i32_w]
       rfl
      refine take_ (i := 8) (N := some 98) (v := ?_) (a' := ?_) (bs 23 226303) rfl rfl (take_ofW HT_.out HW_.out (by kernel_rfl)) (fun _ _ _ h => h) (Or.inl ⟨by rfl, ?_⟩) hHeld ?_ ?_
      rotate_left
      ·rintro w' ⟨s0, s1, s2, s3⟩
       go_simp
       with_reducible rfl
      rotate_left
      ·simp only [Act.put, sA, sZ, sS, i64_w, i32_w]
       rfl
      refine pure_ (i := 10) (N := some 100) (v := ?_) (a' := ?_) (bs 23 227327) rfl rfl (any_of HT_.out (by kernel_rfl)) (fun _ _ _ h => h) (Or.inl ⟨by rfl, ?_⟩) ?_ ?_
      rotate_left
      ·intro w'
       go_simp
       with_reducible rfl
      rotate_left
      ·simp only [Act.put, sA, sZ, sS, i64_w, i32_w]
       rfl
      refine take_ (i := 11) (N := some 101) (v := ?_) (a' := ?_) (bs 23 229375) rfl rfl (take_ofW HT_.out HW_.out (by kernel_rfl)) (fun _ _ _ h => h) (Or.inl ⟨by rfl, ?_⟩) hHeld ?_ ?_
      rotate_left
      ·rintro w' ⟨s0, s1, s2, s3⟩
       go_simp
       with_reducible rfl
      rotate_left
      ·simp only [Act.put, sA, sZ, sS, i64_w, i32_w]
       rfl
      refine take_ (i := 15) (N := some 105) (v := ?_) (a' := ?_) (bs 23 262143) rfl rfl (take_ofW HT_.out HW_.out (by kernel_rfl)) (fun _ _ _ h => h) (Or.inl ⟨by rfl, ?_⟩) hHeld ?_ ?_
      rotate_left
      ·rintro w' ⟨s0, s1, s2, s3⟩
       go_simp
       with_reducible rfl
      rotate_left
      ·simp only [Act.put, sA, sZ, sS, i64_w, i32_w]
       rfl
      refine pure_ (i := 18) (N := some 108) (v := ?_) (a' := ?_) (bs 23 524287) rfl rfl (any_of HT_.out (by kernel_rfl)) (fun _ _ _ h => h) (Or.inl ⟨by rfl, ?_⟩) ?_ ?_
      rotate_left
      ·intro w'
       go_simp
       with_reducible rfl
      rotate_left
      ·simp only [Act.put, sA, sZ, sS, i64_w, i32_w]
       rfl
      refine take_ (i := 19) (N := some 109) (v := ?_) (a' := ?_) (bs 23 1048575) rfl rfl (take_ofW HT_.out HW_.out (by kernel_rfl)) (fun _ _ _ h => h) (Or.inl ⟨by rfl, ?_⟩) hHeld ?_ ?_
      rotate_left
      ·rintro w' ⟨s0, s1, s2, s3⟩
       go_simp
       with_reducible rfl
      rotate_left
      ·simp only [Act.put, sA, sZ, sS, i64_w, i32_w]
       rfl
      refine pure_ (i := 20) (N := some 110) (v := ?_) (a' := ?_) (bs 23 2097151) rfl rfl (any_of HT_.out (by kernel_rfl)) (fun _ _ _ h => h) (Or.inl ⟨by rfl, ?_⟩) ?_ ?_
      rotate_left
      ·intro w'
       go_simp
       with_reducible rfl
      rotate_left
      ·simp only [Act.put, sA, sZ, sS, i64_w, i32_w]
       rfl
      refine pure_ (i := 21) (N := some 111) (v := ?_) (a' := ?_) (bs 23 4194303) rfl rfl (any_of HT_.out (by kernel_rfl)) (fun _ _ _ h => h) (Or.inl ⟨by rfl, ?_⟩) ?_ ?_
      rotate_left
      ·intro w'
       go_simp
       with_reducible rfl
      rotate_left
      ·simp only [Act.put, sA, sZ, sS, i64_w, i32_w]
       rfl
      refine pure_ (i := 22) (N := some 112) (v := ?_) (a' := ?_) (bs 23 8388607) rfl rfl (any_of HT_.out (by kernel_rfl)) (fun _ _ _ h => h) (Or.inl ⟨by rfl, ?_⟩) ?_ ?_
      rotate_left
      ·intro w'
       go_simp
       with_reducible rfl
      rotate_left
      ·simp only [Act.put, sA, sZ, sS, i64_w, i32_w]
       rfl
      refine done_ (done_of HT_.out (by kernel_rfl)) ?_
      have p320 : 0 ≤ (x9_2 : Int) := of_decide_eq_true (by first | (with_reducible assumption) | assumption)
      have q320 : x9_2 < (l1.length : Int) := of_decide_eq_true (by first | (with_reducible assumption) | assumption)
      obtain ⟨ad320, e320, hx320_0, hx320_1, hx320_2, hx320_3, hx320_4⟩ := at_T50 HR1.out x9_2 p320 q320
      obtain rfl : ad301 = ad320 := (by injection e320)
      replace hx320_0 := hup HB.out hx320_0
      replace hx320_1 := hup HB.out hx320_1
      replace hx320_2 := hup HB.out hx320_2
      replace hx320_3 := hup HB.out hx320_3
      replace hx320_4 := hup HB.out hx320_4
      replace p320 := eq_true p320
      replace q320 := eq_true q320
      try go_wp2_with (first | ((with_reducible refine gate_builtin (b := .append) (xs := #[.tmp 113, .tmp 119]) rfl ?_); (try (refine gate_guard (by rfl) ?_; dsimp only)); at_builtin; refine Kd.R_append k58 (w0 := w) w.heap.size rfl (.tmp 113) (.tmp 119) 31 58 (.agg #[(.int .i64 0), (.string ⟨#[]⟩), (.int .i64 0), (.bool false), (.bool false), (.bool false)]) 40 rfl Try.underlying31 info58 rfl (by decide) (by omega) u7 x7_2 (⟨4, (⟨(rd_T50 l1 x9_2).f0, (rd_T50 l1 x9_2).f1, (rd_T50 l1 x9_2).f2, (rd_T50 l1 x9_2).f3, (rd_T50 l1 x9_2).f4⟩ : S50)⟩ : S58) [.int .i64 4, .string ((rd_T50 l1 x9_2).f0), .int .i64 ((rd_T50 l1 x9_2).f1), .bool ((rd_T50 l1 x9_2).f2), .bool ((rd_T50 l1 x9_2).f3), .bool ((rd_T50 l1 x9_2).f4)] (fun _ => True) (fun _ => False) rfl rfl ?aP (fun _ hk => hk.elim) ?aF ?aO ?aB ?aS ?aL ?_; (case aP => exact k58_mkM _ _ _ (⟨4, (⟨(rd_T50 l1 x9_2).f0, (rd_T50 l1 x9_2).f1, (rd_T50 l1 x9_2).f2, (rd_T50 l1 x9_2).f3, (rd_T50 l1 x9_2).f4⟩ : S50)⟩ : S58)); (case aB => exact (by first | exact bel HB.out | exact HB.out)); (case aF => exact (fun _ _ => trivial)); (case aO => exact (by exact rel <| HO_7.out)); (case aS => exact (below_size (by first | exact bel HB.out | exact HB.out))); (case aL => have := LMc50.out; omega); intro v322 w56 ho hb hg hat; rw [← Ny321.out] at ho; have n0_ := aS (Kd.S_over' (by (with_reducible repeat (first | apply Kd.S_alloc | apply Kd.S_drewN | apply Kd.S_drew)); exact HO_6.out) (Kd.R_typed (by exact rel <| HO_7.out)) (by decide) hg); have n1_ := aS (Kd.R_over' (by exact rel <| HL303_0.out) (Kd.R_typed (by exact rel <| HO_7.out)) (by decide) hg); have n2_ := aS (Kd.R_over' (by exact rel <| HL305_0.out) (Kd.R_typed (by exact rel <| HO_7.out)) (by decide) hg); have n3_ := aS (Kd.R_over' (by exact rel <| HL316_0.out) (Kd.R_typed (by exact rel <| HO_7.out)) (by decide) hg); have n4_ := aS (Kd.R_over' (by exact rel <| HL318_0.out) (Kd.R_typed (by exact rel <| HO_7.out)) (by decide) hg); have n5_ := aS (hb); have n6_ := aS (ho); clear HO_6; clear HL303_0; clear HL305_0; clear HL316_0; clear HL318_0; clear HB; clear HO_7; have HO_6 := n0_; have HL303_0 := n1_; have HL305_0 := n2_; have HL316_0 := n3_; have HL318_0 := n4_; have HB := n5_; have HO323 := n6_; clear n0_ n1_ n2_ n3_ n4_ n5_ n6_; clear ho hb hg hat))
      go_roundg kj12
      case measure => have := HJ2.out; have := HK2.out; have := HJ9.out; have := HJ12.out; omega
      case rel => exact ⟨(y321), (x8_2), (ji26), (by first | rfl | (simp; done) | (simp [*]; done)), (by first | rfl | (simp; done) | (simp only [← hji26] <;> (first | rfl | simp)) | (simp [*]; done)), H', ⟨by have := HJ2.out; have := HK2.out; have := HJ9.out; have := HJ12.out; omega⟩, ⟨by (with_reducible repeat (first | apply Kd.S_alloc | apply Kd.S_drewN | apply Kd.S_drew)); exact HO_6.out⟩, ⟨by exact rel <| HO323.out⟩, ⟨by first | exact bel HB.out | exact HB.out⟩⟩
end Go.Proofs.Ytjmbkbnbepmhjaa.P
