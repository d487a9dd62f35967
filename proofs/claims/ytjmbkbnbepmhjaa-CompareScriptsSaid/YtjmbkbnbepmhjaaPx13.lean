-- out of a program (drive.sh), by way of the translation's print
import Derived.Test.YtjmbkbnbepmhjaaPx0
import Derived.Test.YtjmbkbnbepmhjaaPx12
namespace Go.Proofs.Ytjmbkbnbepmhjaa.P
open Go.RowKit Go.Proofs.YtjmbkbnbepmhjaaW.PrintWords Go.Proofs.YtjmbkbnbepmhjaaW.PrintLast Go.Proofs.YtjmbkbnbepmhjaaW.PrintMore
attribute [local go_sem] max2_int min2_int max_two min_two max_three min_three max_four min_four   -- for this text's walks alone
set_option linter.unusedVariables false
set_option linter.unusedSimpArgs false

/-! ### compare_Apply: function 19 -/
mutual
def compare_Apply.l0 : Nat → List (S50) → List (S50) → Int → List (S63) → Int → Int → Option ((List (S50)) × Int)
 | 0, _, _, _, _, _, _ => none
 | k + 1, x0, x7, x8, x17, x18, x19 => if x19 < x18 then (if 0 ≤ x19 then (if x19 < (x17.length : Int) then (if ((rd_T63 x17 x19).f0) = 1 then (if 0 ≤ x8 then (if x8 < (x0.length : Int) then (if x7.length < 4398046511104 then ((some (x7 ++ [(⟨(rd_T50 x0 x8).f0, (rd_T50 x0 x8).f1, (rd_T50 x0 x8).f2, (rd_T50 x0 x8).f3, (rd_T50 x0 x8).f4⟩ : S50)] : List (S50))).bind fun y165 => (if ((rd_T63 x17 x19).f0) = 4 then (compare_Apply.l0 k x0 y165 x8 x17 x18 (wrap64 (x19 + 1))) else (compare_Apply.l0 k x0 y165 (wrap64 (x8 + 1)) x17 x18 (wrap64 (x19 + 1))))) else (none)) else (none)) else (none)) else (if ((rd_T63 x17 x19).f0) = 2 then (compare_Apply.j1 k x0 x7 x8 x17 x18 x19 (((rd_T63 x17 x19).f0) == 2) ((rd_T63 x17 x19).f0) ((rd_T63 x17 x19).f1.f0) ((rd_T63 x17 x19).f1.f1) ((rd_T63 x17 x19).f1.f2) ((rd_T63 x17 x19).f1.f3) ((rd_T63 x17 x19).f1.f4)) else (if ((rd_T63 x17 x19).f0) = 3 then (compare_Apply.j1 k x0 x7 x8 x17 x18 x19 (((rd_T63 x17 x19).f0) == 3) ((rd_T63 x17 x19).f0) ((rd_T63 x17 x19).f1.f0) ((rd_T63 x17 x19).f1.f1) ((rd_T63 x17 x19).f1.f2) ((rd_T63 x17 x19).f1.f3) ((rd_T63 x17 x19).f1.f4)) else (compare_Apply.j1 k x0 x7 x8 x17 x18 x19 (((rd_T63 x17 x19).f0) == 4) ((rd_T63 x17 x19).f0) ((rd_T63 x17 x19).f1.f0) ((rd_T63 x17 x19).f1.f1) ((rd_T63 x17 x19).f1.f2) ((rd_T63 x17 x19).f1.f3) ((rd_T63 x17 x19).f1.f4))))) else (none)) else (none)) else (if (x7.length : Int) > 30 then (some (([] : List (S50)), 6)) else (some (x7, 0)))
def compare_Apply.j1 : Nat → List (S50) → List (S50) → Int → List (S63) → Int → Int → Bool → Int → ByteArray → Int → Bool → Bool → Bool → Option ((List (S50)) × Int)
 | 0, _, _, _, _, _, _, _, _, _, _, _, _, _ => none
 | k + 1, x0, x7, x8, x17, x18, x19, x34, x164000, x164001, x164002, x164003, x164004, x164005 => if x34 = true then (if x7.length < 4398046511104 then ((some (x7 ++ [(⟨x164001, x164002, x164003, x164004, x164005⟩ : S50)] : List (S50))).bind fun y168 => (if x164000 = 4 then (compare_Apply.l0 k x0 y168 x8 x17 x18 (wrap64 (x19 + 1))) else (compare_Apply.l0 k x0 y168 (wrap64 (x8 + 1)) x17 x18 (wrap64 (x19 + 1))))) else (none)) else (if x164000 = 4 then (compare_Apply.l0 k x0 x7 x8 x17 x18 (wrap64 (x19 + 1))) else (compare_Apply.l0 k x0 x7 (wrap64 (x8 + 1)) x17 x18 (wrap64 (x19 + 1))))
end
def compare_Apply.f (k : Nat) (l0 : List (S50)) (l1 : List (S63)) : Option ((List (S50)) × Int) := (compare_fits.f k l0 l1).bind fun t161 => (if t161 = 0 then (compare_Apply.l0 k l0 ([] : List (S50)) 0 l1 (l1.length : Int) 0) else (some (([] : List (S50)), t161)))
theorem compare_Apply.mono_l : ∀ k, (∀ y0 y1 y2 y3 y4 y5, LeO (compare_Apply.l0 k y0 y1 y2 y3 y4 y5) (compare_Apply.l0 (k + 1) y0 y1 y2 y3 y4 y5)) ∧ (∀ y0 y1 y2 y3 y4 y5 y6 y7 y8 y9 y10 y11 y12, LeO (compare_Apply.j1 k y0 y1 y2 y3 y4 y5 y6 y7 y8 y9 y10 y11 y12) (compare_Apply.j1 (k + 1) y0 y1 y2 y3 y4 y5 y6 y7 y8 y9 y10 y11 y12))
 | 0 => ⟨fun _ _ _ _ _ _ r h => by simp [compare_Apply.l0] at h, fun _ _ _ _ _ _ _ _ _ _ _ _ _ r h => by simp [compare_Apply.j1] at h⟩
 | k + 1 => by
  obtain ⟨ih0, ih1⟩ := compare_Apply.mono_l k
  refine ⟨?_, ?_⟩
  ·intro y0 y1 y2 y3 y4 y5
   unfold compare_Apply.l0
   repeat' first
   | (with_reducible exact ih0 _ _ _ _ _ _)
   | (with_reducible exact ih1 _ _ _ _ _ _ _ _ _ _ _ _ _)
   | (with_reducible exact compare_fits.mono _ _ _)
   | (with_reducible exact LeO.refl _)
   | (with_reducible exact LeO.none _)
   | (with_reducible refine LeO.ite ?_ ?_)
   | (with_reducible refine LeO.bind ?_ (fun _ => ?_))
   | exact ih0 _ _ _ _ _ _
   | exact ih1 _ _ _ _ _ _ _ _ _ _ _ _ _
   | exact compare_fits.mono _ _ _
   | exact LeO.none _
   | refine LeO.ite ?_ ?_
   | refine LeO.bind ?_ (fun _ => ?_)
  ·intro y0 y1 y2 y3 y4 y5 y6 y7 y8 y9 y10 y11 y12
   unfold compare_Apply.j1
   repeat' first
   | (with_reducible exact ih0 _ _ _ _ _ _)
   | (with_reducible exact ih1 _ _ _ _ _ _ _ _ _ _ _ _ _)
   | (with_reducible exact compare_fits.mono _ _ _)
   | (with_reducible exact LeO.refl _)
   | (with_reducible exact LeO.none _)
   | (with_reducible refine LeO.ite ?_ ?_)
   | (with_reducible refine LeO.bind ?_ (fun _ => ?_))
   | exact ih0 _ _ _ _ _ _
   | exact ih1 _ _ _ _ _ _ _ _ _ _ _ _ _
   | exact compare_fits.mono _ _ _
   | exact LeO.none _
   | refine LeO.ite ?_ ?_
   | refine LeO.bind ?_ (fun _ => ?_)
theorem compare_Apply.mono : ∀ a0 a1 k, LeO (compare_Apply.f k a0 a1) (compare_Apply.f (k + 1) a0 a1) := by
 intro a0 a1 k
 obtain ⟨ih0, ih1⟩ := compare_Apply.mono_l k
 unfold compare_Apply.f
 repeat' first
   | (with_reducible exact ih0 _ _ _ _ _ _)
   | (with_reducible exact ih1 _ _ _ _ _ _ _ _ _ _ _ _ _)
   | (with_reducible exact compare_fits.mono _ _ _)
   | (with_reducible exact LeO.refl _)
   | (with_reducible exact LeO.none _)
   | (with_reducible refine LeO.ite ?_ ?_)
   | (with_reducible refine LeO.bind ?_ (fun _ => ?_))
   | exact ih0 _ _ _ _ _ _
   | exact ih1 _ _ _ _ _ _ _ _ _ _ _ _ _
   | exact compare_fits.mono _ _ _
   | exact LeO.none _
   | refine LeO.ite ?_ ?_
   | refine LeO.bind ?_ (fun _ => ?_)
set_option maxHeartbeats 8000000 in
set_option maxRecDepth 100000 in
theorem compare_Apply.calls (k : Nat) (A0 : Option Addr) (c0 : Nat) (l0 : List (S50)) (A1 : Option Addr) (c1 : Nat) (l1 : List (S63)) (r1 : List (S50)) (r2 : Int) (w : World) (hr0 : Kd.C k50 w A0 l0.length l0) (hc0 : l0.length ≤ c0) (hr1 : Kd.C k63 w A1 l1.length l1) (hc1 : l1.length ≤ c1) (h : compare_Apply.f k l0 l1 = some (r1, r2)) :
  Calls Try.prog 19 #[.slice A0 l0.length c0, .slice A1 l1.length c1] w fun e w' => ∃ v0_ : Value, e = .returned (.tuple #[v0_, .int .i64 r2]) ∧ Kd.R k50 50 w' w.heap.size (fun _ => True) v0_ r1 ∧ Below w.heap.size w w' := by
 have hu63 := Try.underlying63
 have hu50 := Try.underlying50
 have HR0 := aS hr0
 have HC0 := aS hc0
 clear hr0 hc0
 have HR1 := aS hr1
 have HC1 := aS hc1
 clear hr1 hc1
 have HB := aS (Below.refl w.heap.size w)
 have H : ((compare_fits.f k l0 l1).bind fun t161 => (if t161 = 0 then (compare_Apply.l0 k l0 ([] : List (S50)) 0 l1 (l1.length : Int) 0) else (some (([] : List (S50)), t161)))) = some (r1, r2) := h
 clear h
 replace H := Option.bind_eq_some_iff.mp H
 obtain ⟨t161, A30, H⟩ := H
 replace H : (if t161 = 0 then (compare_Apply.l0 k l0 ([] : List (S50)) 0 l1 (l1.length : Int) 0) else (some (([] : List (S50)), t161))) = some (r1, r2) := H
 have A3 := aS A30
 clear A30
 by_cases c4 : t161 = 0
 rotate_left
 ·rw [if_neg c4] at H
  have c4b0 : (t161 == 0) = false := beq_eq_false_iff_ne.mpr c4
  have c4b1 : (t161 != 0) = true := bne_iff_ne.mpr c4
  simp only [Option.some.injEq, Prod.mk.injEq] at H
  obtain ⟨rfl, rfl⟩ := H
  go_enter Try.func19, Try.ntmps19
  go_wp2_with (first | ((with_reducible refine gate_callee (f := 37) rfl ?_); refine goesL_ (some 13) rfl rfl Try.func37 (by kernel_rfl) rfl #[.slice A0 l0.length c0, .slice A1 l1.length c1] rfl (by (try simp only [List.map_toArray, List.map_cons, List.map_nil]); first | done | rfl | (simp only [List.length_drop, List.length_take]; rfl)) ?_; (with_reducible refine (compare_fits.calls k _ _ l0 _ _ l1 t161 _ ?side1 ?side2 ?side3 ?side4 A3.out).mono ?_); (case side1 => repeat (first | exact HR0.out | (with_reducible apply Kd.C_alloc) | (with_reducible apply Kd.C_drewN) | (with_reducible apply Kd.C_drew))); (case side2 => exact HC0.out); (case side3 => repeat (first | exact HR1.out | (with_reducible apply Kd.C_alloc) | (with_reducible apply Kd.C_drewN) | (with_reducible apply Kd.C_drew))); (case side4 => exact HC1.out); rintro e w42 ⟨rfl, hb⟩; refine ⟨_, rfl, ?_⟩; have n0_ := aS (below_step (by first | exact bel HB.out | exact HB.out) hb); clear HB; have HB := n0_; clear n0_; (try clear hb); (try clear hb2); (try clear hk); (try clear hi)))
  go_ret2
  exact ⟨_, by first | rfl | (simp [errW_none, errW_some] <;> rfl) | (simp [*, errW_none, errW_some] <;> rfl), by first | exact Kd.R_nil _ _ _ _ _ | exact Kd.N_nil _ _ _ _ _ | exact Kd.V_nil _ _ _ _ _ | exact Kd.Q_nil _ _ _ _ _ | exact Kd.S_nil _ _ _ _ _, by first | exact bel HB.out | exact HB.out⟩

 rw [if_pos c4] at H
 have c4b0 : (t161 == 0) = true := beq_iff_eq.mpr c4
 have c4b1 : (t161 != 0) = false := bne_eq_false_iff_eq.mpr c4
 clear c4
 have H' := aS H
 clear H
 go_enter Try.func19, Try.ntmps19
 go_wp2_with (first | ((with_reducible refine gate_callee (f := 37) rfl ?_); refine goesL_ (some 13) rfl rfl Try.func37 (by kernel_rfl) rfl #[.slice A0 l0.length c0, .slice A1 l1.length c1] rfl (by (try simp only [List.map_toArray, List.map_cons, List.map_nil]); first | done | rfl | (simp only [List.length_drop, List.length_take]; rfl)) ?_; (with_reducible refine (compare_fits.calls k _ _ l0 _ _ l1 t161 _ ?side1 ?side2 ?side3 ?side4 A3.out).mono ?_); (case side1 => repeat (first | exact HR0.out | (with_reducible apply Kd.C_alloc) | (with_reducible apply Kd.C_drewN) | (with_reducible apply Kd.C_drew))); (case side2 => exact HC0.out); (case side3 => repeat (first | exact HR1.out | (with_reducible apply Kd.C_alloc) | (with_reducible apply Kd.C_drewN) | (with_reducible apply Kd.C_drew))); (case side4 => exact HC1.out); rintro e w5 ⟨rfl, hb⟩; refine ⟨_, rfl, ?_⟩; have n0_ := aS (below_step (by first | exact bel HB.out | exact HB.out) hb); clear HB; have HB := n0_; clear n0_; (try clear hb); (try clear hb2); (try clear hk); (try clear hi)))
 go_loopg [7, 8, 19] k (fun kq v7 v8 v19 w' => ∃ (x7_1 : List (S50)) (x8_1 : Int) (x19_1 : Int), v8 = .int .i64 x8_1 ∧ v19 = .int .i64 x19_1 ∧ Aside0 (compare_Apply.l0 kq l0 x7_1 x8_1 l1 (l1.length : Int) x19_1 = some (r1, r2)) ∧ Aside0 (kq ≤ k) ∧ Aside0 (Kd.R k50 50 w' w.heap.size (fun _ => True) v7 x7_1) ∧ Aside0 (Below w.heap.size w w'))
 case atStart => exact ⟨(([] : List (S50))), (0), (0), (by first | rfl | (simp; done) | (simp [*]; done)), (by first | rfl | (simp; done) | (simp [*]; done)), H', ⟨Nat.le_refl _⟩, ⟨by first | exact Kd.R_nil _ _ _ _ _ | exact Kd.N_nil _ _ _ _ _ | exact Kd.V_nil _ _ _ _ _ | exact Kd.Q_nil _ _ _ _ _ | exact Kd.S_nil _ _ _ _ _⟩, ⟨by first | exact bel HB.out | exact HB.out⟩⟩
 case round =>
  clear H'
  try clear c1
  try clear p2
  try clear c3
  try clear c4
  try clear c4b0
  try clear c4b1
  obtain ⟨x7_1, x8_1, x19_1, rfl, rfl, HA, HK1, HO_7, HB⟩ := hrel
  cases gk with
  | zero => exact absurd HA.out (by simp [compare_Apply.l0])
  | succ k1 =>
   have H := HA.out
   clear HA
   simp only [compare_Apply.l0] at H
   by_cases c6 : x19_1 < (l1.length : Int)
   rotate_left
   ·rw [if_neg c6] at H
    have c6b0 : decide (x19_1 < (l1.length : Int)) = false := decide_eq_false c6
    clear c6
    by_cases c39 : (x7_1.length : Int) > 30
    rotate_left
    ·rw [if_neg c39] at H
     have c39b0 : decide (30 < (x7_1.length : Int)) = false := decide_eq_false c39
     have c39b1 : decide (30 < x7_1.length) = false := decide_eq_false (by omega)
     clear c39
     simp only [Option.some.injEq, Prod.mk.injEq] at H
     obtain ⟨rfl, rfl⟩ := H
     obtain ⟨Ao41, co41, eo41⟩ := Kd.R_slice HO_7.out
     subst eo41
     go_wp2
     go_ret2
     exact ⟨_, by first | rfl | (simp [errW_none, errW_some] <;> rfl) | (simp [*, errW_none, errW_some] <;> rfl), by exact rel <| HO_7.out, by first | exact bel HB.out | exact HB.out⟩
    rw [if_pos c39] at H
    have c39b0 : decide (30 < (x7_1.length : Int)) = true := decide_eq_true c39
    have c39b1 : decide (30 < x7_1.length) = true := decide_eq_true (by omega)
    clear c39
    simp only [Option.some.injEq, Prod.mk.injEq] at H
    obtain ⟨rfl, rfl⟩ := H
    obtain ⟨Ao40, co40, eo40⟩ := Kd.R_slice HO_7.out
    subst eo40
    go_wp2
    go_ret2
    exact ⟨_, by first | rfl | (simp [errW_none, errW_some] <;> rfl) | (simp [*, errW_none, errW_some] <;> rfl), by first | exact Kd.R_nil _ _ _ _ _ | exact Kd.N_nil _ _ _ _ _ | exact Kd.V_nil _ _ _ _ _ | exact Kd.Q_nil _ _ _ _ _ | exact Kd.S_nil _ _ _ _ _, by first | exact bel HB.out | exact HB.out⟩
   rw [if_pos c6] at H
   have c6b0 : decide (x19_1 < (l1.length : Int)) = true := decide_eq_true c6
   clear c6
   by_cases c7 : 0 ≤ x19_1
   rotate_left
   ·rw [if_neg c7] at H
    exact absurd H (by simp)
   rw [if_pos c7] at H
   have c7b0 : decide (0 ≤ x19_1) = true := decide_eq_true c7
   clear c7
   by_cases c8 : x19_1 < (l1.length : Int)
   rotate_left
   ·rw [if_neg c8] at H
    exact absurd H (by simp)
   rw [if_pos c8] at H
   have c8b0 : decide (x19_1 < (l1.length : Int)) = true := decide_eq_true c8
   clear c8
   by_cases c9 : ((rd_T63 l1 x19_1).f0) = 1
   ·rw [if_pos c9] at H
    have c9b0 : (((rd_T63 l1 x19_1).f0) == 1) = true := beq_iff_eq.mpr c9
    have c9b1 : (((rd_T63 l1 x19_1).f0) != 1) = false := bne_eq_false_iff_eq.mpr c9
    clear c9
    by_cases c10 : 0 ≤ x8_1
    rotate_left
    ·rw [if_neg c10] at H
     exact absurd H (by simp)
    rw [if_pos c10] at H
    have c10b0 : decide (0 ≤ x8_1) = true := decide_eq_true c10
    clear c10
    by_cases c11 : x8_1 < (l0.length : Int)
    rotate_left
    ·rw [if_neg c11] at H
     exact absurd H (by simp)
    rw [if_pos c11] at H
    have c11b0 : decide (x8_1 < (l0.length : Int)) = true := decide_eq_true c11
    clear c11
    by_cases c12 : x7_1.length < 4398046511104
    rotate_left
    ·rw [if_neg c12] at H
     exact absurd H (by simp)
    rw [if_pos c12] at H
    have LMc12 := aS c12
    clear c12
    obtain ⟨y165, hy165⟩ : ∃ y_ : List (S50), y_ = (x7_1 ++ [(⟨(rd_T50 l0 x8_1).f0, (rd_T50 l0 x8_1).f1, (rd_T50 l0 x8_1).f2, (rd_T50 l0 x8_1).f3, (rd_T50 l0 x8_1).f4⟩ : S50)]) := ⟨_, rfl⟩
    replace H : (if ((rd_T63 l1 x19_1).f0) = 4 then (compare_Apply.l0 k1 l0 y165 x8_1 l1 (l1.length : Int) (wrap64 (x19_1 + 1))) else (compare_Apply.l0 k1 l0 y165 (wrap64 (x8_1 + 1)) l1 (l1.length : Int) (wrap64 (x19_1 + 1)))) = some (r1, r2) := by first | (rw [hy165]; with_reducible exact H) | (have H2_ := (Option.bind_some _ _).symm.trans H; rw [hy165]; with_reducible exact H2_) | (have H2_ := (Option.bind_some _ _).symm.trans H; with_reducible exact H2_) | with_reducible exact H | (rw [hy165]; exact H) | exact H
    have Ny165 := aS hy165
    clear hy165
    by_cases c13 : ((rd_T63 l1 x19_1).f0) = 4
    ·rw [if_pos c13] at H
     have c13b0 : (((rd_T63 l1 x19_1).f0) == 4) = true := beq_iff_eq.mpr c13
     exact absurd ((eq_of_beq c9b0).symm.trans (eq_of_beq c13b0)) (by decide)
    rw [if_neg c13] at H
    have c13b0 : (((rd_T63 l1 x19_1).f0) == 4) = false := beq_eq_false_iff_ne.mpr c13
    have c13b1 : (((rd_T63 l1 x19_1).f0) != 4) = true := bne_iff_ne.mpr c13
    have H' := aS H
    clear H
    have p162 : 0 ≤ (x19_1 : Int) := of_decide_eq_true (by first | (with_reducible assumption) | assumption)
    have q162 : x19_1 < (l1.length : Int) := of_decide_eq_true (by first | (with_reducible assumption) | assumption)
    obtain ⟨ad162, e162, hx162_0, hx162_1, hx162_2, hx162_3, hx162_4, hx162_5⟩ := at_T63 HR1.out x19_1 p162 q162
    cases e162
    replace hx162_0 := hup HB.out hx162_0
    replace hx162_1 := hup HB.out hx162_1
    replace hx162_2 := hup HB.out hx162_2
    replace hx162_3 := hup HB.out hx162_3
    replace hx162_4 := hup HB.out hx162_4
    replace hx162_5 := hup HB.out hx162_5
    replace p162 := eq_true p162
    replace q162 := eq_true q162
    go_wp2_with (first | ((with_reducible refine gate_dst (N := 10) rfl ?_); refine box_event ?hg (N := 10) ?hd (cs := #[.int .i64 0, .string (⟨#[]⟩ : ByteArray), .int .i64 0, .bool false, .bool false, .bool false]) (t := 63) ?hr ?_; (case hd => rfl); (case hg => rfl); (case hr => first | (go_simp; done) | (go_simp; rfl)); intro gb163 hg w18 hbox hb; have n0_ := aS (Kd.R_below (by exact rel <| HO_7.out) hb); have n1_ := aS (below_step (by first | exact bel HB.out | exact HB.out) hb); have n2_ := aS (hbox); have n3_ := aS ((by rw [hg]; exact (below_size (by first | exact bel HB.out | exact HB.out)) : w.heap.size ≤ gb163)); have n4_ := aS ((by rw [hg]; exact (below_size (by first | exact bel HB.out | exact HB.out)) : w.heap.size ≤ gb163)); clear HO_7; clear HB; have HO_7 := n0_; have HB := n1_; have BK163 := n2_; have GW163 := n3_; have GE163 := n4_; clear n0_ n1_ n2_ n3_ n4_; clear hb hbox hg; have hcz19_0 : w18.cell? ⟨gb163, 0, none⟩ = some (.int .i64 0) := (blk_cell BK163.out 0).trans rfl; have hcz19_1 : w18.cell? ⟨gb163, 1, none⟩ = some (.string (⟨#[]⟩ : ByteArray)) := (blk_cell BK163.out 1).trans rfl; have hcz19_2 : w18.cell? ⟨gb163, 2, none⟩ = some (.int .i64 0) := (blk_cell BK163.out 2).trans rfl; have hcz19_3 : w18.cell? ⟨gb163, 3, none⟩ = some (.bool false) := (blk_cell BK163.out 3).trans rfl; have hcz19_4 : w18.cell? ⟨gb163, 4, none⟩ = some (.bool false) := (blk_cell BK163.out 4).trans rfl; have hcz19_5 : w18.cell? ⟨gb163, 5, none⟩ = some (.bool false) := (blk_cell BK163.out 5).trans rfl; have hfz19_0 := blk_frozen BK163.out 0; have hfz19_1 := blk_frozen BK163.out 1; have hfz19_2 := blk_frozen BK163.out 2; have hfz19_3 := blk_frozen BK163.out 3; have hfz19_4 := blk_frozen BK163.out 4; have hfz19_5 := blk_frozen BK163.out 5; have p164 : 0 ≤ (x8_1 : Int) := of_decide_eq_true (by first | (with_reducible assumption) | assumption); have q164 : x8_1 < (l0.length : Int) := of_decide_eq_true (by first | (with_reducible assumption) | assumption); obtain ⟨ad164, e164, hx164_0, hx164_1, hx164_2, hx164_3, hx164_4⟩ := at_T50 HR0.out x8_1 p164 q164; cases e164; have hn164_0 : ad164.block ≠ gb163 := Nat.ne_of_lt (Nat.lt_of_lt_of_le (by have := World.block_lt_of_cell? _ _ hx164_0; first | rwa [add_block] at this | exact this) GW163.out); have hn164_1 : ad164.block ≠ gb163 := Nat.ne_of_lt (Nat.lt_of_lt_of_le (by have := World.block_lt_of_cell? _ _ hx164_0; first | rwa [add_block] at this | exact this) GW163.out); have hn164_2 : ad164.block ≠ gb163 := Nat.ne_of_lt (Nat.lt_of_lt_of_le (by have := World.block_lt_of_cell? _ _ hx164_0; first | rwa [add_block] at this | exact this) GW163.out); have hn164_3 : ad164.block ≠ gb163 := Nat.ne_of_lt (Nat.lt_of_lt_of_le (by have := World.block_lt_of_cell? _ _ hx164_0; first | rwa [add_block] at this | exact this) GW163.out); have hn164_4 : ad164.block ≠ gb163 := Nat.ne_of_lt (Nat.lt_of_lt_of_le (by have := World.block_lt_of_cell? _ _ hx164_0; first | rwa [add_block] at this | exact this) GW163.out); have hn164_5 : ad164.block ≠ gb163 := Nat.ne_of_lt (Nat.lt_of_lt_of_le (by have := World.block_lt_of_cell? _ _ hx164_0; first | rwa [add_block] at this | exact this) GW163.out); replace hx164_0 := hup HB.out hx164_0; replace hx164_1 := hup HB.out hx164_1; replace hx164_2 := hup HB.out hx164_2; replace hx164_3 := hup HB.out hx164_3; replace hx164_4 := hup HB.out hx164_4; replace hx164_0 := (cell_far (p := ⟨gb163, 0, none⟩) (by first | (rw [add_block]; exact hn164_0) | (show (Addr.add _ _).block ≠ _; rw [add_block]; exact hn164_0) | exact hn164_0) (.int .i64 ((rd_T63 l1 x19_1).f0))).trans hx164_0; replace hx164_1 := (cell_far (p := ⟨gb163, 0, none⟩) (by first | (rw [add_block]; exact hn164_0) | (show (Addr.add _ _).block ≠ _; rw [add_block]; exact hn164_0) | exact hn164_0) (.int .i64 ((rd_T63 l1 x19_1).f0))).trans hx164_1; replace hx164_2 := (cell_far (p := ⟨gb163, 0, none⟩) (by first | (rw [add_block]; exact hn164_0) | (show (Addr.add _ _).block ≠ _; rw [add_block]; exact hn164_0) | exact hn164_0) (.int .i64 ((rd_T63 l1 x19_1).f0))).trans hx164_2; replace hx164_3 := (cell_far (p := ⟨gb163, 0, none⟩) (by first | (rw [add_block]; exact hn164_0) | (show (Addr.add _ _).block ≠ _; rw [add_block]; exact hn164_0) | exact hn164_0) (.int .i64 ((rd_T63 l1 x19_1).f0))).trans hx164_3; replace hx164_4 := (cell_far (p := ⟨gb163, 0, none⟩) (by first | (rw [add_block]; exact hn164_0) | (show (Addr.add _ _).block ≠ _; rw [add_block]; exact hn164_0) | exact hn164_0) (.int .i64 ((rd_T63 l1 x19_1).f0))).trans hx164_4; replace hx164_0 := (cell_far (p := ⟨gb163, 1, none⟩) (by first | (rw [add_block]; exact hn164_1) | (show (Addr.add _ _).block ≠ _; rw [add_block]; exact hn164_1) | exact hn164_1) (.string ((rd_T63 l1 x19_1).f1.f0))).trans hx164_0; replace hx164_1 := (cell_far (p := ⟨gb163, 1, none⟩) (by first | (rw [add_block]; exact hn164_1) | (show (Addr.add _ _).block ≠ _; rw [add_block]; exact hn164_1) | exact hn164_1) (.string ((rd_T63 l1 x19_1).f1.f0))).trans hx164_1; replace hx164_2 := (cell_far (p := ⟨gb163, 1, none⟩) (by first | (rw [add_block]; exact hn164_1) | (show (Addr.add _ _).block ≠ _; rw [add_block]; exact hn164_1) | exact hn164_1) (.string ((rd_T63 l1 x19_1).f1.f0))).trans hx164_2; replace hx164_3 := (cell_far (p := ⟨gb163, 1, none⟩) (by first | (rw [add_block]; exact hn164_1) | (show (Addr.add _ _).block ≠ _; rw [add_block]; exact hn164_1) | exact hn164_1) (.string ((rd_T63 l1 x19_1).f1.f0))).trans hx164_3; replace hx164_4 := (cell_far (p := ⟨gb163, 1, none⟩) (by first | (rw [add_block]; exact hn164_1) | (show (Addr.add _ _).block ≠ _; rw [add_block]; exact hn164_1) | exact hn164_1) (.string ((rd_T63 l1 x19_1).f1.f0))).trans hx164_4; replace hx164_0 := (cell_far (p := ⟨gb163, 2, none⟩) (by first | (rw [add_block]; exact hn164_2) | (show (Addr.add _ _).block ≠ _; rw [add_block]; exact hn164_2) | exact hn164_2) (.int .i64 ((rd_T63 l1 x19_1).f1.f1))).trans hx164_0; replace hx164_1 := (cell_far (p := ⟨gb163, 2, none⟩) (by first | (rw [add_block]; exact hn164_2) | (show (Addr.add _ _).block ≠ _; rw [add_block]; exact hn164_2) | exact hn164_2) (.int .i64 ((rd_T63 l1 x19_1).f1.f1))).trans hx164_1; replace hx164_2 := (cell_far (p := ⟨gb163, 2, none⟩) (by first | (rw [add_block]; exact hn164_2) | (show (Addr.add _ _).block ≠ _; rw [add_block]; exact hn164_2) | exact hn164_2) (.int .i64 ((rd_T63 l1 x19_1).f1.f1))).trans hx164_2; replace hx164_3 := (cell_far (p := ⟨gb163, 2, none⟩) (by first | (rw [add_block]; exact hn164_2) | (show (Addr.add _ _).block ≠ _; rw [add_block]; exact hn164_2) | exact hn164_2) (.int .i64 ((rd_T63 l1 x19_1).f1.f1))).trans hx164_3; replace hx164_4 := (cell_far (p := ⟨gb163, 2, none⟩) (by first | (rw [add_block]; exact hn164_2) | (show (Addr.add _ _).block ≠ _; rw [add_block]; exact hn164_2) | exact hn164_2) (.int .i64 ((rd_T63 l1 x19_1).f1.f1))).trans hx164_4; replace hx164_0 := (cell_far (p := ⟨gb163, 3, none⟩) (by first | (rw [add_block]; exact hn164_3) | (show (Addr.add _ _).block ≠ _; rw [add_block]; exact hn164_3) | exact hn164_3) (.bool ((rd_T63 l1 x19_1).f1.f2))).trans hx164_0; replace hx164_1 := (cell_far (p := ⟨gb163, 3, none⟩) (by first | (rw [add_block]; exact hn164_3) | (show (Addr.add _ _).block ≠ _; rw [add_block]; exact hn164_3) | exact hn164_3) (.bool ((rd_T63 l1 x19_1).f1.f2))).trans hx164_1; replace hx164_2 := (cell_far (p := ⟨gb163, 3, none⟩) (by first | (rw [add_block]; exact hn164_3) | (show (Addr.add _ _).block ≠ _; rw [add_block]; exact hn164_3) | exact hn164_3) (.bool ((rd_T63 l1 x19_1).f1.f2))).trans hx164_2; replace hx164_3 := (cell_far (p := ⟨gb163, 3, none⟩) (by first | (rw [add_block]; exact hn164_3) | (show (Addr.add _ _).block ≠ _; rw [add_block]; exact hn164_3) | exact hn164_3) (.bool ((rd_T63 l1 x19_1).f1.f2))).trans hx164_3; replace hx164_4 := (cell_far (p := ⟨gb163, 3, none⟩) (by first | (rw [add_block]; exact hn164_3) | (show (Addr.add _ _).block ≠ _; rw [add_block]; exact hn164_3) | exact hn164_3) (.bool ((rd_T63 l1 x19_1).f1.f2))).trans hx164_4; replace hx164_0 := (cell_far (p := ⟨gb163, 4, none⟩) (by first | (rw [add_block]; exact hn164_4) | (show (Addr.add _ _).block ≠ _; rw [add_block]; exact hn164_4) | exact hn164_4) (.bool ((rd_T63 l1 x19_1).f1.f3))).trans hx164_0; replace hx164_1 := (cell_far (p := ⟨gb163, 4, none⟩) (by first | (rw [add_block]; exact hn164_4) | (show (Addr.add _ _).block ≠ _; rw [add_block]; exact hn164_4) | exact hn164_4) (.bool ((rd_T63 l1 x19_1).f1.f3))).trans hx164_1; replace hx164_2 := (cell_far (p := ⟨gb163, 4, none⟩) (by first | (rw [add_block]; exact hn164_4) | (show (Addr.add _ _).block ≠ _; rw [add_block]; exact hn164_4) | exact hn164_4) (.bool ((rd_T63 l1 x19_1).f1.f3))).trans hx164_2; replace hx164_3 := (cell_far (p := ⟨gb163, 4, none⟩) (by first | (rw [add_block]; exact hn164_4) | (show (Addr.add _ _).block ≠ _; rw [add_block]; exact hn164_4) | exact hn164_4) (.bool ((rd_T63 l1 x19_1).f1.f3))).trans hx164_3; replace hx164_4 := (cell_far (p := ⟨gb163, 4, none⟩) (by first | (rw [add_block]; exact hn164_4) | (show (Addr.add _ _).block ≠ _; rw [add_block]; exact hn164_4) | exact hn164_4) (.bool ((rd_T63 l1 x19_1).f1.f3))).trans hx164_4; replace hx164_0 := (cell_far (p := ⟨gb163, 5, none⟩) (by first | (rw [add_block]; exact hn164_5) | (show (Addr.add _ _).block ≠ _; rw [add_block]; exact hn164_5) | exact hn164_5) (.bool ((rd_T63 l1 x19_1).f1.f4))).trans hx164_0; replace hx164_1 := (cell_far (p := ⟨gb163, 5, none⟩) (by first | (rw [add_block]; exact hn164_5) | (show (Addr.add _ _).block ≠ _; rw [add_block]; exact hn164_5) | exact hn164_5) (.bool ((rd_T63 l1 x19_1).f1.f4))).trans hx164_1; replace hx164_2 := (cell_far (p := ⟨gb163, 5, none⟩) (by first | (rw [add_block]; exact hn164_5) | (show (Addr.add _ _).block ≠ _; rw [add_block]; exact hn164_5) | exact hn164_5) (.bool ((rd_T63 l1 x19_1).f1.f4))).trans hx164_2; replace hx164_3 := (cell_far (p := ⟨gb163, 5, none⟩) (by first | (rw [add_block]; exact hn164_5) | (show (Addr.add _ _).block ≠ _; rw [add_block]; exact hn164_5) | exact hn164_5) (.bool ((rd_T63 l1 x19_1).f1.f4))).trans hx164_3; replace hx164_4 := (cell_far (p := ⟨gb163, 5, none⟩) (by first | (rw [add_block]; exact hn164_5) | (show (Addr.add _ _).block ≠ _; rw [add_block]; exact hn164_5) | exact hn164_5) (.bool ((rd_T63 l1 x19_1).f1.f4))).trans hx164_4; clear hn164_0; clear hn164_1; clear hn164_2; clear hn164_3; clear hn164_4; clear hn164_5; replace p164 := eq_true p164; replace q164 := eq_true q164) | ((with_reducible refine gate_builtin (b := .append) (xs := #[.tmp 27, .tmp 32]) rfl ?_); at_builtin; refine Kd.R_append k50 (w0 := w) w.heap.size rfl (.tmp 27) (.tmp 32) 22 50 (.agg #[(.string ⟨#[]⟩), (.int .i64 0), (.bool false), (.bool false), (.bool false)]) 32 rfl Try.underlying22 info50 rfl (by decide) (by omega) u7 x7_1 (⟨(rd_T50 l0 x8_1).f0, (rd_T50 l0 x8_1).f1, (rd_T50 l0 x8_1).f2, (rd_T50 l0 x8_1).f3, (rd_T50 l0 x8_1).f4⟩ : S50) [.string ((rd_T50 l0 x8_1).f0), .int .i64 ((rd_T50 l0 x8_1).f1), .bool ((rd_T50 l0 x8_1).f2), .bool ((rd_T50 l0 x8_1).f3), .bool ((rd_T50 l0 x8_1).f4)] (fun _ => True) (fun _ => False) rfl (by first | (go_simp; done) | (go_simp; rfl)) ?aP (fun _ hk => hk.elim) ?aF ?aO ?aB ?aS ?aL ?_; (case aP => exact k50_mkM _ _ _ (⟨(rd_T50 l0 x8_1).f0, (rd_T50 l0 x8_1).f1, (rd_T50 l0 x8_1).f2, (rd_T50 l0 x8_1).f3, (rd_T50 l0 x8_1).f4⟩ : S50)); (case aB => exact (by repeat (first | (with_reducible first | exact HB.out | apply bA | apply bN | apply bD | refine below_set ?_ GE163.out) | exact HB.out))); (case aF => exact (fun _ _ => trivial)); (case aO => exact (by exact rel <| Kd.R_mono (Kd.R_far (p := ⟨gb163, 5, none⟩) (Kd.R_far (p := ⟨gb163, 4, none⟩) (Kd.R_far (p := ⟨gb163, 3, none⟩) (Kd.R_far (p := ⟨gb163, 2, none⟩) (Kd.R_far (p := ⟨gb163, 1, none⟩) (Kd.R_far (p := ⟨gb163, 0, none⟩) (Kd.R_types HO_7.out BK163.out (by decide)) (fun _ hk => hk.2) (.int .i64 ((rd_T63 l1 x19_1).f0))) (fun _ hk => hk.2) (.string ((rd_T63 l1 x19_1).f1.f0))) (fun _ hk => hk.2) (.int .i64 ((rd_T63 l1 x19_1).f1.f1))) (fun _ hk => hk.2) (.bool ((rd_T63 l1 x19_1).f1.f2))) (fun _ hk => hk.2) (.bool ((rd_T63 l1 x19_1).f1.f3))) (fun _ hk => hk.2) (.bool ((rd_T63 l1 x19_1).f1.f4))) (fun _ hk => trivial))); (case aS => exact (below_size (by repeat (first | (with_reducible first | exact HB.out | apply bA | apply bN | apply bD | refine below_set ?_ GE163.out) | exact HB.out)))); (case aL => have := LMc12.out; omega); intro v166 w20 ho hb hg hat; rw [← Ny165.out] at ho; have n0_ := aS (blk_grown (g := gb163) (o := .cells #[.int .i64 ((rd_T63 l1 x19_1).f0), .string ((rd_T63 l1 x19_1).f1.f0), .int .i64 ((rd_T63 l1 x19_1).f1.f1), .bool ((rd_T63 l1 x19_1).f1.f2), .bool ((rd_T63 l1 x19_1).f1.f3), .bool ((rd_T63 l1 x19_1).f1.f4)] 63 (0, 0)) (by (with_reducible repeat (first | refine blk_drewN ?_ _ | refine blk_drew ?_ | refine blk_alloc ?_ _)); refine blk_put (cs := #[.int .i64 ((rd_T63 l1 x19_1).f0), .string ((rd_T63 l1 x19_1).f1.f0), .int .i64 ((rd_T63 l1 x19_1).f1.f1), .bool ((rd_T63 l1 x19_1).f1.f2), .bool ((rd_T63 l1 x19_1).f1.f3), .bool false]) ?_ 5 _ rfl; (with_reducible repeat (first | refine blk_drewN ?_ _ | refine blk_drew ?_ | refine blk_alloc ?_ _)); refine blk_put (cs := #[.int .i64 ((rd_T63 l1 x19_1).f0), .string ((rd_T63 l1 x19_1).f1.f0), .int .i64 ((rd_T63 l1 x19_1).f1.f1), .bool ((rd_T63 l1 x19_1).f1.f2), .bool false, .bool false]) ?_ 4 _ rfl; (with_reducible repeat (first | refine blk_drewN ?_ _ | refine blk_drew ?_ | refine blk_alloc ?_ _)); refine blk_put (cs := #[.int .i64 ((rd_T63 l1 x19_1).f0), .string ((rd_T63 l1 x19_1).f1.f0), .int .i64 ((rd_T63 l1 x19_1).f1.f1), .bool false, .bool false, .bool false]) ?_ 3 _ rfl; (with_reducible repeat (first | refine blk_drewN ?_ _ | refine blk_drew ?_ | refine blk_alloc ?_ _)); refine blk_put (cs := #[.int .i64 ((rd_T63 l1 x19_1).f0), .string ((rd_T63 l1 x19_1).f1.f0), .int .i64 0, .bool false, .bool false, .bool false]) ?_ 2 _ rfl; (with_reducible repeat (first | refine blk_drewN ?_ _ | refine blk_drew ?_ | refine blk_alloc ?_ _)); refine blk_put (cs := #[.int .i64 ((rd_T63 l1 x19_1).f0), .string (⟨#[]⟩ : ByteArray), .int .i64 0, .bool false, .bool false, .bool false]) ?_ 1 _ rfl; (with_reducible repeat (first | refine blk_drewN ?_ _ | refine blk_drew ?_ | refine blk_alloc ?_ _)); refine blk_put (cs := #[.int .i64 0, .string (⟨#[]⟩ : ByteArray), .int .i64 0, .bool false, .bool false, .bool false]) ?_ 0 _ rfl; (with_reducible repeat (first | refine blk_drewN ?_ _ | refine blk_drew ?_ | refine blk_alloc ?_ _)); exact BK163.out) hg (Kd.R_ne HO_7.out BK163.out (by decide))); have n1_ := aS (hb); have n2_ := aS (ho); clear BK163; clear HB; clear HO_7; have BK163 := n0_; have HB := n1_; have HO167 := n2_; clear n0_ n1_ n2_; clear ho hb hg hat; have hcz21_0 : w20.cell? ⟨gb163, 0, none⟩ = some (.int .i64 ((rd_T63 l1 x19_1).f0)) := (blk_cell BK163.out 0).trans rfl; have hcz21_1 : w20.cell? ⟨gb163, 1, none⟩ = some (.string ((rd_T63 l1 x19_1).f1.f0)) := (blk_cell BK163.out 1).trans rfl; have hcz21_2 : w20.cell? ⟨gb163, 2, none⟩ = some (.int .i64 ((rd_T63 l1 x19_1).f1.f1)) := (blk_cell BK163.out 2).trans rfl; have hcz21_3 : w20.cell? ⟨gb163, 3, none⟩ = some (.bool ((rd_T63 l1 x19_1).f1.f2)) := (blk_cell BK163.out 3).trans rfl; have hcz21_4 : w20.cell? ⟨gb163, 4, none⟩ = some (.bool ((rd_T63 l1 x19_1).f1.f3)) := (blk_cell BK163.out 4).trans rfl; have hcz21_5 : w20.cell? ⟨gb163, 5, none⟩ = some (.bool ((rd_T63 l1 x19_1).f1.f4)) := (blk_cell BK163.out 5).trans rfl; have hfz21_0 := blk_frozen BK163.out 0; have hfz21_1 := blk_frozen BK163.out 1; have hfz21_2 := blk_frozen BK163.out 2; have hfz21_3 := blk_frozen BK163.out 3; have hfz21_4 := blk_frozen BK163.out 4; have hfz21_5 := blk_frozen BK163.out 5))
    go_roundg k1
    case measure => have := HK1.out; omega
    case rel => exact ⟨(y165), (wrap64 (x8_1 + 1)), (wrap64 (x19_1 + 1)), (by first | rfl | (simp; done) | (simp [*]; done)), (by first | rfl | (simp; done) | (simp [*]; done)), H', ⟨by have := HK1.out; omega⟩, ⟨by exact rel <| HO167.out⟩, ⟨by repeat (first | (with_reducible first | exact HB.out | apply bA | apply bN | apply bD | refine below_set ?_ GE163.out) | exact HB.out)⟩⟩
   rw [if_neg c9] at H
   have c9b0 : (((rd_T63 l1 x19_1).f0) == 1) = false := beq_eq_false_iff_ne.mpr c9
   have c9b1 : (((rd_T63 l1 x19_1).f0) != 1) = true := bne_iff_ne.mpr c9
   have HC22 := aS H
   clear H
   have p162 : 0 ≤ (x19_1 : Int) := of_decide_eq_true (by first | (with_reducible assumption) | assumption)
   have q162 : x19_1 < (l1.length : Int) := of_decide_eq_true (by first | (with_reducible assumption) | assumption)
   obtain ⟨ad162, e162, hx162_0, hx162_1, hx162_2, hx162_3, hx162_4, hx162_5⟩ := at_T63 HR1.out x19_1 p162 q162
   cases e162
   replace hx162_0 := hup HB.out hx162_0
   replace hx162_1 := hup HB.out hx162_1
   replace hx162_2 := hup HB.out hx162_2
   replace hx162_3 := hup HB.out hx162_3
   replace hx162_4 := hup HB.out hx162_4
   replace hx162_5 := hup HB.out hx162_5
   replace p162 := eq_true p162
   replace q162 := eq_true q162
   go_upto_if 34 with (first | ((with_reducible refine gate_dst (N := 10) rfl ?_); refine box_event ?hg (N := 10) ?hd (cs := #[.int .i64 0, .string (⟨#[]⟩ : ByteArray), .int .i64 0, .bool false, .bool false, .bool false]) (t := 63) ?hr ?_; (case hd => rfl); (case hg => rfl); (case hr => first | (go_simp; done) | (go_simp; rfl)); intro gb163 hg w23 hbox hb; have n0_ := aS (Kd.R_below (by exact rel <| HO_7.out) hb); have n1_ := aS (below_step (by first | exact bel HB.out | exact HB.out) hb); have n2_ := aS (hbox); have n3_ := aS ((by rw [hg]; exact (below_size (by first | exact bel HB.out | exact HB.out)) : w.heap.size ≤ gb163)); have n4_ := aS ((by rw [hg]; exact (below_size (by first | exact bel HB.out | exact HB.out)) : w.heap.size ≤ gb163)); clear HO_7; clear HB; have HO_7 := n0_; have HB := n1_; have BK163 := n2_; have GW163 := n3_; have GE163 := n4_; clear n0_ n1_ n2_ n3_ n4_; clear hb hbox hg; have hcz24_0 : w23.cell? ⟨gb163, 0, none⟩ = some (.int .i64 0) := (blk_cell BK163.out 0).trans rfl; have hcz24_1 : w23.cell? ⟨gb163, 1, none⟩ = some (.string (⟨#[]⟩ : ByteArray)) := (blk_cell BK163.out 1).trans rfl; have hcz24_2 : w23.cell? ⟨gb163, 2, none⟩ = some (.int .i64 0) := (blk_cell BK163.out 2).trans rfl; have hcz24_3 : w23.cell? ⟨gb163, 3, none⟩ = some (.bool false) := (blk_cell BK163.out 3).trans rfl; have hcz24_4 : w23.cell? ⟨gb163, 4, none⟩ = some (.bool false) := (blk_cell BK163.out 4).trans rfl; have hcz24_5 : w23.cell? ⟨gb163, 5, none⟩ = some (.bool false) := (blk_cell BK163.out 5).trans rfl; have hfz24_0 := blk_frozen BK163.out 0; have hfz24_1 := blk_frozen BK163.out 1; have hfz24_2 := blk_frozen BK163.out 2; have hfz24_3 := blk_frozen BK163.out 3; have hfz24_4 := blk_frozen BK163.out 4; have hfz24_5 := blk_frozen BK163.out 5))
   (try simp only [Act.put, List.setIfInBounds_toArray, List.set_cons_zero, List.set_cons_succ])
   go_cut [34] (fun v34 wc => ∃ (kq : Nat) (x34_21 : Bool), v34 = .bool x34_21 ∧ Aside0 (compare_Apply.j1 kq l0 x7_1 x8_1 l1 (l1.length : Int) x19_1 x34_21 ((rd_T63 l1 x19_1).f0) ((rd_T63 l1 x19_1).f1.f0) ((rd_T63 l1 x19_1).f1.f1) ((rd_T63 l1 x19_1).f1.f2) ((rd_T63 l1 x19_1).f1.f3) ((rd_T63 l1 x19_1).f1.f4) = some (r1, r2)) ∧ Aside0 (kq ≤ k1) ∧ Aside0 (Kd.R k50 50 wc w.heap.size (fun _ => True) u7 x7_1) ∧ Aside0 (wc.heap[gb163]? = some (.cells #[.int .i64 ((rd_T63 l1 x19_1).f0), .string ((rd_T63 l1 x19_1).f1.f0), .int .i64 ((rd_T63 l1 x19_1).f1.f1), .bool ((rd_T63 l1 x19_1).f1.f2), .bool ((rd_T63 l1 x19_1).f1.f3), .bool ((rd_T63 l1 x19_1).f1.f4)] 63 (0, 0))) ∧ Aside0 (Below w.heap.size w wc))
   case first =>
    have H := HC22.out
    clear HC22
    by_cases c25 : ((rd_T63 l1 x19_1).f0) = 2
    ·rw [if_pos c25] at H
     have c25b0 : (((rd_T63 l1 x19_1).f0) == 2) = true := beq_iff_eq.mpr c25
     have c25b1 : (((rd_T63 l1 x19_1).f0) != 2) = false := bne_eq_false_iff_eq.mpr c25
     clear c25
     (first | rw [c25b0] | (simp only [i64_w, i32_w]; rw [c25b0]) | skip)
     have H' := aS H
     clear H
     go_wp2
     go_meet
     case rel => exact ⟨_, ((((rd_T63 l1 x19_1).f0) == 2)), (by first | rfl | (simp; done) | (simp [*]; done)), H', ⟨by have := HK1.out; first | omega | exact Nat.le_refl _⟩, ⟨by exact rel <| Kd.R_mono (Kd.R_far (p := ⟨gb163, 5, none⟩) (Kd.R_far (p := ⟨gb163, 4, none⟩) (Kd.R_far (p := ⟨gb163, 3, none⟩) (Kd.R_far (p := ⟨gb163, 2, none⟩) (Kd.R_far (p := ⟨gb163, 1, none⟩) (Kd.R_far (p := ⟨gb163, 0, none⟩) (Kd.R_types HO_7.out BK163.out (by decide)) (fun _ hk => hk.2) (.int .i64 ((rd_T63 l1 x19_1).f0))) (fun _ hk => hk.2) (.string ((rd_T63 l1 x19_1).f1.f0))) (fun _ hk => hk.2) (.int .i64 ((rd_T63 l1 x19_1).f1.f1))) (fun _ hk => hk.2) (.bool ((rd_T63 l1 x19_1).f1.f2))) (fun _ hk => hk.2) (.bool ((rd_T63 l1 x19_1).f1.f3))) (fun _ hk => hk.2) (.bool ((rd_T63 l1 x19_1).f1.f4))) (fun _ hk => trivial)⟩, ⟨by (with_reducible repeat (first | refine blk_drewN ?_ _ | refine blk_drew ?_ | refine blk_alloc ?_ _)); refine blk_put (cs := #[.int .i64 ((rd_T63 l1 x19_1).f0), .string ((rd_T63 l1 x19_1).f1.f0), .int .i64 ((rd_T63 l1 x19_1).f1.f1), .bool ((rd_T63 l1 x19_1).f1.f2), .bool ((rd_T63 l1 x19_1).f1.f3), .bool false]) ?_ 5 _ rfl; (with_reducible repeat (first | refine blk_drewN ?_ _ | refine blk_drew ?_ | refine blk_alloc ?_ _)); refine blk_put (cs := #[.int .i64 ((rd_T63 l1 x19_1).f0), .string ((rd_T63 l1 x19_1).f1.f0), .int .i64 ((rd_T63 l1 x19_1).f1.f1), .bool ((rd_T63 l1 x19_1).f1.f2), .bool false, .bool false]) ?_ 4 _ rfl; (with_reducible repeat (first | refine blk_drewN ?_ _ | refine blk_drew ?_ | refine blk_alloc ?_ _)); refine blk_put (cs := #[.int .i64 ((rd_T63 l1 x19_1).f0), .string ((rd_T63 l1 x19_1).f1.f0), .int .i64 ((rd_T63 l1 x19_1).f1.f1), .bool false, .bool false, .bool false]) ?_ 3 _ rfl; (with_reducible repeat (first | refine blk_drewN ?_ _ | refine blk_drew ?_ | refine blk_alloc ?_ _)); refine blk_put (cs := #[.int .i64 ((rd_T63 l1 x19_1).f0), .string ((rd_T63 l1 x19_1).f1.f0), .int .i64 0, .bool false, .bool false, .bool false]) ?_ 2 _ rfl; (with_reducible repeat (first | refine blk_drewN ?_ _ | refine blk_drew ?_ | refine blk_alloc ?_ _)); refine blk_put (cs := #[.int .i64 ((rd_T63 l1 x19_1).f0), .string (⟨#[]⟩ : ByteArray), .int .i64 0, .bool false, .bool false, .bool false]) ?_ 1 _ rfl; (with_reducible repeat (first | refine blk_drewN ?_ _ | refine blk_drew ?_ | refine blk_alloc ?_ _)); refine blk_put (cs := #[.int .i64 0, .string (⟨#[]⟩ : ByteArray), .int .i64 0, .bool false, .bool false, .bool false]) ?_ 0 _ rfl; (with_reducible repeat (first | refine blk_drewN ?_ _ | refine blk_drew ?_ | refine blk_alloc ?_ _)); exact BK163.out⟩, ⟨by repeat (first | (with_reducible first | exact HB.out | apply bA | apply bN | apply bD | refine below_set ?_ GE163.out) | exact HB.out)⟩⟩
    rw [if_neg c25] at H
    have c25b0 : (((rd_T63 l1 x19_1).f0) == 2) = false := beq_eq_false_iff_ne.mpr c25
    have c25b1 : (((rd_T63 l1 x19_1).f0) != 2) = true := bne_iff_ne.mpr c25
    (first | rw [c25b0] | (simp only [i64_w, i32_w]; rw [c25b0]) | skip)
    by_cases c26 : ((rd_T63 l1 x19_1).f0) = 3
    rotate_left
    ·rw [if_neg c26] at H
     have c26b0 : (((rd_T63 l1 x19_1).f0) == 3) = false := beq_eq_false_iff_ne.mpr c26
     have c26b1 : (((rd_T63 l1 x19_1).f0) != 3) = true := bne_iff_ne.mpr c26
     have H' := aS H
     clear H
     go_wp2
     go_meet
     case rel => exact ⟨_, ((((rd_T63 l1 x19_1).f0) == 4)), (by first | rfl | (simp; done) | (simp [*]; done)), H', ⟨by have := HK1.out; first | omega | exact Nat.le_refl _⟩, ⟨by exact rel <| Kd.R_mono (Kd.R_far (p := ⟨gb163, 5, none⟩) (Kd.R_far (p := ⟨gb163, 4, none⟩) (Kd.R_far (p := ⟨gb163, 3, none⟩) (Kd.R_far (p := ⟨gb163, 2, none⟩) (Kd.R_far (p := ⟨gb163, 1, none⟩) (Kd.R_far (p := ⟨gb163, 0, none⟩) (Kd.R_types HO_7.out BK163.out (by decide)) (fun _ hk => hk.2) (.int .i64 ((rd_T63 l1 x19_1).f0))) (fun _ hk => hk.2) (.string ((rd_T63 l1 x19_1).f1.f0))) (fun _ hk => hk.2) (.int .i64 ((rd_T63 l1 x19_1).f1.f1))) (fun _ hk => hk.2) (.bool ((rd_T63 l1 x19_1).f1.f2))) (fun _ hk => hk.2) (.bool ((rd_T63 l1 x19_1).f1.f3))) (fun _ hk => hk.2) (.bool ((rd_T63 l1 x19_1).f1.f4))) (fun _ hk => trivial)⟩, ⟨by (with_reducible repeat (first | refine blk_drewN ?_ _ | refine blk_drew ?_ | refine blk_alloc ?_ _)); refine blk_put (cs := #[.int .i64 ((rd_T63 l1 x19_1).f0), .string ((rd_T63 l1 x19_1).f1.f0), .int .i64 ((rd_T63 l1 x19_1).f1.f1), .bool ((rd_T63 l1 x19_1).f1.f2), .bool ((rd_T63 l1 x19_1).f1.f3), .bool false]) ?_ 5 _ rfl; (with_reducible repeat (first | refine blk_drewN ?_ _ | refine blk_drew ?_ | refine blk_alloc ?_ _)); refine blk_put (cs := #[.int .i64 ((rd_T63 l1 x19_1).f0), .string ((rd_T63 l1 x19_1).f1.f0), .int .i64 ((rd_T63 l1 x19_1).f1.f1), .bool ((rd_T63 l1 x19_1).f1.f2), .bool false, .bool false]) ?_ 4 _ rfl; (with_reducible repeat (first | refine blk_drewN ?_ _ | refine blk_drew ?_ | refine blk_alloc ?_ _)); refine blk_put (cs := #[.int .i64 ((rd_T63 l1 x19_1).f0), .string ((rd_T63 l1 x19_1).f1.f0), .int .i64 ((rd_T63 l1 x19_1).f1.f1), .bool false, .bool false, .bool false]) ?_ 3 _ rfl; (with_reducible repeat (first | refine blk_drewN ?_ _ | refine blk_drew ?_ | refine blk_alloc ?_ _)); refine blk_put (cs := #[.int .i64 ((rd_T63 l1 x19_1).f0), .string ((rd_T63 l1 x19_1).f1.f0), .int .i64 0, .bool false, .bool false, .bool false]) ?_ 2 _ rfl; (with_reducible repeat (first | refine blk_drewN ?_ _ | refine blk_drew ?_ | refine blk_alloc ?_ _)); refine blk_put (cs := #[.int .i64 ((rd_T63 l1 x19_1).f0), .string (⟨#[]⟩ : ByteArray), .int .i64 0, .bool false, .bool false, .bool false]) ?_ 1 _ rfl; (with_reducible repeat (first | refine blk_drewN ?_ _ | refine blk_drew ?_ | refine blk_alloc ?_ _)); refine blk_put (cs := #[.int .i64 0, .string (⟨#[]⟩ : ByteArray), .int .i64 0, .bool false, .bool false, .bool false]) ?_ 0 _ rfl; (with_reducible repeat (first | refine blk_drewN ?_ _ | refine blk_drew ?_ | refine blk_alloc ?_ _)); exact BK163.out⟩, ⟨by repeat (first | (with_reducible first | exact HB.out | apply bA | apply bN | apply bD | refine below_set ?_ GE163.out) | exact HB.out)⟩⟩
    rw [if_pos c26] at H
    have c26b0 : (((rd_T63 l1 x19_1).f0) == 3) = true := beq_iff_eq.mpr c26
    have c26b1 : (((rd_T63 l1 x19_1).f0) != 3) = false := bne_eq_false_iff_eq.mpr c26
    clear c26
    have H' := aS H
    clear H
    go_wp2
    go_meet
    case rel => exact ⟨_, ((((rd_T63 l1 x19_1).f0) == 3)), (by first | rfl | (simp; done) | (simp [*]; done)), H', ⟨by have := HK1.out; first | omega | exact Nat.le_refl _⟩, ⟨by exact rel <| Kd.R_mono (Kd.R_far (p := ⟨gb163, 5, none⟩) (Kd.R_far (p := ⟨gb163, 4, none⟩) (Kd.R_far (p := ⟨gb163, 3, none⟩) (Kd.R_far (p := ⟨gb163, 2, none⟩) (Kd.R_far (p := ⟨gb163, 1, none⟩) (Kd.R_far (p := ⟨gb163, 0, none⟩) (Kd.R_types HO_7.out BK163.out (by decide)) (fun _ hk => hk.2) (.int .i64 ((rd_T63 l1 x19_1).f0))) (fun _ hk => hk.2) (.string ((rd_T63 l1 x19_1).f1.f0))) (fun _ hk => hk.2) (.int .i64 ((rd_T63 l1 x19_1).f1.f1))) (fun _ hk => hk.2) (.bool ((rd_T63 l1 x19_1).f1.f2))) (fun _ hk => hk.2) (.bool ((rd_T63 l1 x19_1).f1.f3))) (fun _ hk => hk.2) (.bool ((rd_T63 l1 x19_1).f1.f4))) (fun _ hk => trivial)⟩, ⟨by (with_reducible repeat (first | refine blk_drewN ?_ _ | refine blk_drew ?_ | refine blk_alloc ?_ _)); refine blk_put (cs := #[.int .i64 ((rd_T63 l1 x19_1).f0), .string ((rd_T63 l1 x19_1).f1.f0), .int .i64 ((rd_T63 l1 x19_1).f1.f1), .bool ((rd_T63 l1 x19_1).f1.f2), .bool ((rd_T63 l1 x19_1).f1.f3), .bool false]) ?_ 5 _ rfl; (with_reducible repeat (first | refine blk_drewN ?_ _ | refine blk_drew ?_ | refine blk_alloc ?_ _)); refine blk_put (cs := #[.int .i64 ((rd_T63 l1 x19_1).f0), .string ((rd_T63 l1 x19_1).f1.f0), .int .i64 ((rd_T63 l1 x19_1).f1.f1), .bool ((rd_T63 l1 x19_1).f1.f2), .bool false, .bool false]) ?_ 4 _ rfl; (with_reducible repeat (first | refine blk_drewN ?_ _ | refine blk_drew ?_ | refine blk_alloc ?_ _)); refine blk_put (cs := #[.int .i64 ((rd_T63 l1 x19_1).f0), .string ((rd_T63 l1 x19_1).f1.f0), .int .i64 ((rd_T63 l1 x19_1).f1.f1), .bool false, .bool false, .bool false]) ?_ 3 _ rfl; (with_reducible repeat (first | refine blk_drewN ?_ _ | refine blk_drew ?_ | refine blk_alloc ?_ _)); refine blk_put (cs := #[.int .i64 ((rd_T63 l1 x19_1).f0), .string ((rd_T63 l1 x19_1).f1.f0), .int .i64 0, .bool false, .bool false, .bool false]) ?_ 2 _ rfl; (with_reducible repeat (first | refine blk_drewN ?_ _ | refine blk_drew ?_ | refine blk_alloc ?_ _)); refine blk_put (cs := #[.int .i64 ((rd_T63 l1 x19_1).f0), .string (⟨#[]⟩ : ByteArray), .int .i64 0, .bool false, .bool false, .bool false]) ?_ 1 _ rfl; (with_reducible repeat (first | refine blk_drewN ?_ _ | refine blk_drew ?_ | refine blk_alloc ?_ _)); refine blk_put (cs := #[.int .i64 0, .string (⟨#[]⟩ : ByteArray), .int .i64 0, .bool false, .bool false, .bool false]) ?_ 0 _ rfl; (with_reducible repeat (first | refine blk_drewN ?_ _ | refine blk_drew ?_ | refine blk_alloc ?_ _)); exact BK163.out⟩, ⟨by repeat (first | (with_reducible first | exact HB.out | apply bA | apply bN | apply bD | refine below_set ?_ GE163.out) | exact HB.out)⟩⟩
   clear HC22
   try clear c1
   try clear p1
   try clear q1
   try clear hx1
   try clear c2
   try clear p2
   try clear c3
   try clear c4
   try clear c4b0
   try clear c4b1
   try clear c6
   try clear c6b0
   try clear p6
   try clear c7
   try clear c7b0
   try clear c8
   try clear c8b0
   try clear c9
   try clear c9b0
   try clear c9b1
   try clear c10
   try clear c10b0
   try clear c11
   try clear c11b0
   try clear c12
   try clear c13
   try clear c13b0
   try clear c13b1
   try clear p16
   try clear q16
   try clear hx16
   try clear c19
   try clear c25
   try clear c25b0
   try clear c25b1
   try clear c26
   try clear c26b0
   try clear c26b1
   try clear hcz15_0
   try clear hcz15_1
   try clear hcz15_2
   try clear hcz15_3
   try clear hcz15_4
   try clear hcz15_5
   try clear hcz17_0
   try clear hcz17_1
   try clear hcz17_2
   try clear hcz17_3
   try clear hcz17_4
   try clear hcz17_5
   try clear hcz19_0
   try clear hcz19_1
   try clear hcz19_2
   try clear hcz19_3
   try clear hcz19_4
   try clear hcz19_5
   try clear hcz21_0
   try clear hcz21_1
   try clear hcz21_2
   try clear hcz21_3
   try clear hcz21_4
   try clear hcz21_5
   try clear hcz24_0
   try clear hcz24_1
   try clear hcz24_2
   try clear hcz24_3
   try clear hcz24_4
   try clear hcz24_5
   try clear hfz15_0
   try clear hfz15_1
   try clear hfz15_2
   try clear hfz15_3
   try clear hfz15_4
   try clear hfz15_5
   try clear hfz17_0
   try clear hfz17_1
   try clear hfz17_2
   try clear hfz17_3
   try clear hfz17_4
   try clear hfz17_5
   try clear hfz19_0
   try clear hfz19_1
   try clear hfz19_2
   try clear hfz19_3
   try clear hfz19_4
   try clear hfz19_5
   try clear hfz21_0
   try clear hfz21_1
   try clear hfz21_2
   try clear hfz21_3
   try clear hfz21_4
   try clear hfz21_5
   try clear hfz24_0
   try clear hfz24_1
   try clear hfz24_2
   try clear hfz24_3
   try clear hfz24_4
   try clear hfz24_5
   try clear hx162_0
   try clear hx162_1
   try clear hx162_2
   try clear hx162_3
   try clear hx162_4
   try clear hx162_5
   try clear hx164_0
   try clear hx164_1
   try clear hx164_2
   try clear hx164_3
   try clear hx164_4
   try clear p162
   try clear p164
   try clear p2
   try clear q162
   try clear q164
   obtain ⟨kq, x34_21, rfl, HA, HJ21, HO_7, BK163, HB⟩ := hcut
   cases kq with
   | zero => exact absurd HA.out (by simp [compare_Apply.j1])
   | succ kj21 =>
    have H := HA.out
    clear HA
    simp only [compare_Apply.j1] at H
    by_cases c27 : x34_21 = true
    rotate_left
    ·replace c27 := Bool.eq_false_iff.mpr c27
     subst c27
     have H1 : (if ((rd_T63 l1 x19_1).f0) = 4 then (compare_Apply.l0 kj21 l0 x7_1 x8_1 l1 (l1.length : Int) (wrap64 (x19_1 + 1))) else (compare_Apply.l0 kj21 l0 x7_1 (wrap64 (x8_1 + 1)) l1 (l1.length : Int) (wrap64 (x19_1 + 1)))) = some (r1, r2) := by rw [if_neg (show ¬ (false = true) by decide)] at H; exact H
     clear H
     have H := H1
     clear H1
     by_cases c36 : ((rd_T63 l1 x19_1).f0) = 4
     rotate_left
     ·rw [if_neg c36] at H
      have c36b0 : (((rd_T63 l1 x19_1).f0) == 4) = false := beq_eq_false_iff_ne.mpr c36
      have c36b1 : (((rd_T63 l1 x19_1).f0) != 4) = true := bne_iff_ne.mpr c36
      have H' := aS H
      clear H
      have hcz38_0 : wc.cell? ⟨gb163, 0, none⟩ = some (.int .i64 ((rd_T63 l1 x19_1).f0)) := (blk_cell BK163.out 0).trans rfl
      have hcz38_1 : wc.cell? ⟨gb163, 1, none⟩ = some (.string ((rd_T63 l1 x19_1).f1.f0)) := (blk_cell BK163.out 1).trans rfl
      have hcz38_2 : wc.cell? ⟨gb163, 2, none⟩ = some (.int .i64 ((rd_T63 l1 x19_1).f1.f1)) := (blk_cell BK163.out 2).trans rfl
      have hcz38_3 : wc.cell? ⟨gb163, 3, none⟩ = some (.bool ((rd_T63 l1 x19_1).f1.f2)) := (blk_cell BK163.out 3).trans rfl
      have hcz38_4 : wc.cell? ⟨gb163, 4, none⟩ = some (.bool ((rd_T63 l1 x19_1).f1.f3)) := (blk_cell BK163.out 4).trans rfl
      have hcz38_5 : wc.cell? ⟨gb163, 5, none⟩ = some (.bool ((rd_T63 l1 x19_1).f1.f4)) := (blk_cell BK163.out 5).trans rfl
      have hfz38_0 := blk_frozen BK163.out 0
      have hfz38_1 := blk_frozen BK163.out 1
      have hfz38_2 := blk_frozen BK163.out 2
      have hfz38_3 := blk_frozen BK163.out 3
      have hfz38_4 := blk_frozen BK163.out 4
      have hfz38_5 := blk_frozen BK163.out 5
      go_wp2
      go_roundg kj21
      case measure => have := HK1.out; have := HJ21.out; omega
      case rel => exact ⟨(x7_1), (wrap64 (x8_1 + 1)), (wrap64 (x19_1 + 1)), (by first | rfl | (simp; done) | (simp [*]; done)), (by first | rfl | (simp; done) | (simp [*]; done)), H', ⟨by have := HK1.out; have := HJ21.out; omega⟩, ⟨by exact rel <| HO_7.out⟩, ⟨by repeat (first | (with_reducible first | exact HB.out | apply bA | apply bN | apply bD | refine below_set ?_ GE163.out) | exact HB.out)⟩⟩
     rw [if_pos c36] at H
     have c36b0 : (((rd_T63 l1 x19_1).f0) == 4) = true := beq_iff_eq.mpr c36
     have c36b1 : (((rd_T63 l1 x19_1).f0) != 4) = false := bne_eq_false_iff_eq.mpr c36
     clear c36
     have H' := aS H
     clear H
     have hcz37_0 : wc.cell? ⟨gb163, 0, none⟩ = some (.int .i64 ((rd_T63 l1 x19_1).f0)) := (blk_cell BK163.out 0).trans rfl
     have hcz37_1 : wc.cell? ⟨gb163, 1, none⟩ = some (.string ((rd_T63 l1 x19_1).f1.f0)) := (blk_cell BK163.out 1).trans rfl
     have hcz37_2 : wc.cell? ⟨gb163, 2, none⟩ = some (.int .i64 ((rd_T63 l1 x19_1).f1.f1)) := (blk_cell BK163.out 2).trans rfl
     have hcz37_3 : wc.cell? ⟨gb163, 3, none⟩ = some (.bool ((rd_T63 l1 x19_1).f1.f2)) := (blk_cell BK163.out 3).trans rfl
     have hcz37_4 : wc.cell? ⟨gb163, 4, none⟩ = some (.bool ((rd_T63 l1 x19_1).f1.f3)) := (blk_cell BK163.out 4).trans rfl
     have hcz37_5 : wc.cell? ⟨gb163, 5, none⟩ = some (.bool ((rd_T63 l1 x19_1).f1.f4)) := (blk_cell BK163.out 5).trans rfl
     have hfz37_0 := blk_frozen BK163.out 0
     have hfz37_1 := blk_frozen BK163.out 1
     have hfz37_2 := blk_frozen BK163.out 2
     have hfz37_3 := blk_frozen BK163.out 3
     have hfz37_4 := blk_frozen BK163.out 4
     have hfz37_5 := blk_frozen BK163.out 5
     go_wp2
     go_roundg kj21
     case measure => have := HK1.out; have := HJ21.out; omega
     case rel => exact ⟨(x7_1), (x8_1), (wrap64 (x19_1 + 1)), (by first | rfl | (simp; done) | (simp [*]; done)), (by first | rfl | (simp; done) | (simp [*]; done)), H', ⟨by have := HK1.out; have := HJ21.out; omega⟩, ⟨by exact rel <| HO_7.out⟩, ⟨by repeat (first | (with_reducible first | exact HB.out | apply bA | apply bN | apply bD | refine below_set ?_ GE163.out) | exact HB.out)⟩⟩
    subst c27
    have H1 : (if x7_1.length < 4398046511104 then ((some (x7_1 ++ [(⟨((rd_T63 l1 x19_1).f1.f0), ((rd_T63 l1 x19_1).f1.f1), ((rd_T63 l1 x19_1).f1.f2), ((rd_T63 l1 x19_1).f1.f3), ((rd_T63 l1 x19_1).f1.f4)⟩ : S50)] : List (S50))).bind fun y168 => (if ((rd_T63 l1 x19_1).f0) = 4 then (compare_Apply.l0 kj21 l0 y168 x8_1 l1 (l1.length : Int) (wrap64 (x19_1 + 1))) else (compare_Apply.l0 kj21 l0 y168 (wrap64 (x8_1 + 1)) l1 (l1.length : Int) (wrap64 (x19_1 + 1))))) else (none)) = some (r1, r2) := by rw [if_pos rfl] at H; exact H
    clear H
    have H := H1
    clear H1
    by_cases c28 : x7_1.length < 4398046511104
    rotate_left
    ·rw [if_neg c28] at H
     exact absurd H (by simp)
    rw [if_pos c28] at H
    have LMc28 := aS c28
    clear c28
    obtain ⟨y168, hy168⟩ : ∃ y_ : List (S50), y_ = (x7_1 ++ [(⟨((rd_T63 l1 x19_1).f1.f0), ((rd_T63 l1 x19_1).f1.f1), ((rd_T63 l1 x19_1).f1.f2), ((rd_T63 l1 x19_1).f1.f3), ((rd_T63 l1 x19_1).f1.f4)⟩ : S50)]) := ⟨_, rfl⟩
    replace H : (if ((rd_T63 l1 x19_1).f0) = 4 then (compare_Apply.l0 kj21 l0 y168 x8_1 l1 (l1.length : Int) (wrap64 (x19_1 + 1))) else (compare_Apply.l0 kj21 l0 y168 (wrap64 (x8_1 + 1)) l1 (l1.length : Int) (wrap64 (x19_1 + 1)))) = some (r1, r2) := by first | (rw [hy168]; with_reducible exact H) | (have H2_ := (Option.bind_some _ _).symm.trans H; rw [hy168]; with_reducible exact H2_) | (have H2_ := (Option.bind_some _ _).symm.trans H; with_reducible exact H2_) | with_reducible exact H | (rw [hy168]; exact H) | exact H
    have Ny168 := aS hy168
    clear hy168
    by_cases c29 : ((rd_T63 l1 x19_1).f0) = 4
    rotate_left
    ·rw [if_neg c29] at H
     have c29b0 : (((rd_T63 l1 x19_1).f0) == 4) = false := beq_eq_false_iff_ne.mpr c29
     have c29b1 : (((rd_T63 l1 x19_1).f0) != 4) = true := bne_iff_ne.mpr c29
     have H' := aS H
     clear H
     have hcz33_0 : wc.cell? ⟨gb163, 0, none⟩ = some (.int .i64 ((rd_T63 l1 x19_1).f0)) := (blk_cell BK163.out 0).trans rfl
     have hcz33_1 : wc.cell? ⟨gb163, 1, none⟩ = some (.string ((rd_T63 l1 x19_1).f1.f0)) := (blk_cell BK163.out 1).trans rfl
     have hcz33_2 : wc.cell? ⟨gb163, 2, none⟩ = some (.int .i64 ((rd_T63 l1 x19_1).f1.f1)) := (blk_cell BK163.out 2).trans rfl
     have hcz33_3 : wc.cell? ⟨gb163, 3, none⟩ = some (.bool ((rd_T63 l1 x19_1).f1.f2)) := (blk_cell BK163.out 3).trans rfl
     have hcz33_4 : wc.cell? ⟨gb163, 4, none⟩ = some (.bool ((rd_T63 l1 x19_1).f1.f3)) := (blk_cell BK163.out 4).trans rfl
     have hcz33_5 : wc.cell? ⟨gb163, 5, none⟩ = some (.bool ((rd_T63 l1 x19_1).f1.f4)) := (blk_cell BK163.out 5).trans rfl
     have hfz33_0 := blk_frozen BK163.out 0
     have hfz33_1 := blk_frozen BK163.out 1
     have hfz33_2 := blk_frozen BK163.out 2
     have hfz33_3 := blk_frozen BK163.out 3
     have hfz33_4 := blk_frozen BK163.out 4
     have hfz33_5 := blk_frozen BK163.out 5
     go_wp2_with (first | ((with_reducible refine gate_builtin (b := .append) (xs := #[.tmp 38, .tmp 41]) rfl ?_); at_builtin; refine Kd.R_append k50 (w0 := w) w.heap.size rfl (.tmp 38) (.tmp 41) 22 50 (.agg #[(.string ⟨#[]⟩), (.int .i64 0), (.bool false), (.bool false), (.bool false)]) 32 rfl Try.underlying22 info50 rfl (by decide) (by omega) u7 x7_1 (⟨((rd_T63 l1 x19_1).f1.f0), ((rd_T63 l1 x19_1).f1.f1), ((rd_T63 l1 x19_1).f1.f2), ((rd_T63 l1 x19_1).f1.f3), ((rd_T63 l1 x19_1).f1.f4)⟩ : S50) [.string ((rd_T63 l1 x19_1).f1.f0), .int .i64 ((rd_T63 l1 x19_1).f1.f1), .bool ((rd_T63 l1 x19_1).f1.f2), .bool ((rd_T63 l1 x19_1).f1.f3), .bool ((rd_T63 l1 x19_1).f1.f4)] (fun _ => True) (fun _ => False) rfl rfl ?aP (fun _ hk => hk.elim) ?aF ?aO ?aB ?aS ?aL ?_; (case aP => exact k50_mkM _ _ _ (⟨((rd_T63 l1 x19_1).f1.f0), ((rd_T63 l1 x19_1).f1.f1), ((rd_T63 l1 x19_1).f1.f2), ((rd_T63 l1 x19_1).f1.f3), ((rd_T63 l1 x19_1).f1.f4)⟩ : S50)); (case aB => exact (by repeat (first | (with_reducible first | exact HB.out | apply bA | apply bN | apply bD | refine below_set ?_ GE163.out) | exact HB.out))); (case aF => exact (fun _ _ => trivial)); (case aO => exact (by exact rel <| HO_7.out)); (case aS => exact (below_size (by repeat (first | (with_reducible first | exact HB.out | apply bA | apply bN | apply bD | refine below_set ?_ GE163.out) | exact HB.out)))); (case aL => have := LMc28.out; omega); intro v169 w34 ho hb hg hat; rw [← Ny168.out] at ho; have n0_ := aS (blk_grown (g := gb163) (o := .cells #[.int .i64 ((rd_T63 l1 x19_1).f0), .string ((rd_T63 l1 x19_1).f1.f0), .int .i64 ((rd_T63 l1 x19_1).f1.f1), .bool ((rd_T63 l1 x19_1).f1.f2), .bool ((rd_T63 l1 x19_1).f1.f3), .bool ((rd_T63 l1 x19_1).f1.f4)] 63 (0, 0)) (by (with_reducible repeat (first | refine blk_drewN ?_ _ | refine blk_drew ?_ | refine blk_alloc ?_ _)); exact BK163.out) hg (Kd.R_ne HO_7.out BK163.out (by decide))); have n1_ := aS (hb); have n2_ := aS (ho); clear BK163; clear HB; clear HO_7; have BK163 := n0_; have HB := n1_; have HO170 := n2_; clear n0_ n1_ n2_; clear ho hb hg hat; have hcz35_0 : w34.cell? ⟨gb163, 0, none⟩ = some (.int .i64 ((rd_T63 l1 x19_1).f0)) := (blk_cell BK163.out 0).trans rfl; have hcz35_1 : w34.cell? ⟨gb163, 1, none⟩ = some (.string ((rd_T63 l1 x19_1).f1.f0)) := (blk_cell BK163.out 1).trans rfl; have hcz35_2 : w34.cell? ⟨gb163, 2, none⟩ = some (.int .i64 ((rd_T63 l1 x19_1).f1.f1)) := (blk_cell BK163.out 2).trans rfl; have hcz35_3 : w34.cell? ⟨gb163, 3, none⟩ = some (.bool ((rd_T63 l1 x19_1).f1.f2)) := (blk_cell BK163.out 3).trans rfl; have hcz35_4 : w34.cell? ⟨gb163, 4, none⟩ = some (.bool ((rd_T63 l1 x19_1).f1.f3)) := (blk_cell BK163.out 4).trans rfl; have hcz35_5 : w34.cell? ⟨gb163, 5, none⟩ = some (.bool ((rd_T63 l1 x19_1).f1.f4)) := (blk_cell BK163.out 5).trans rfl; have hfz35_0 := blk_frozen BK163.out 0; have hfz35_1 := blk_frozen BK163.out 1; have hfz35_2 := blk_frozen BK163.out 2; have hfz35_3 := blk_frozen BK163.out 3; have hfz35_4 := blk_frozen BK163.out 4; have hfz35_5 := blk_frozen BK163.out 5))
     go_roundg kj21
     case measure => have := HK1.out; have := HJ21.out; omega
     case rel => exact ⟨(y168), (wrap64 (x8_1 + 1)), (wrap64 (x19_1 + 1)), (by first | rfl | (simp; done) | (simp [*]; done)), (by first | rfl | (simp; done) | (simp [*]; done)), H', ⟨by have := HK1.out; have := HJ21.out; omega⟩, ⟨by exact rel <| HO170.out⟩, ⟨by repeat (first | (with_reducible first | exact HB.out | apply bA | apply bN | apply bD | refine below_set ?_ GE163.out) | exact HB.out)⟩⟩
    rw [if_pos c29] at H
    have c29b0 : (((rd_T63 l1 x19_1).f0) == 4) = true := beq_iff_eq.mpr c29
    have c29b1 : (((rd_T63 l1 x19_1).f0) != 4) = false := bne_eq_false_iff_eq.mpr c29
    clear c29
    have H' := aS H
    clear H
    have hcz30_0 : wc.cell? ⟨gb163, 0, none⟩ = some (.int .i64 ((rd_T63 l1 x19_1).f0)) := (blk_cell BK163.out 0).trans rfl
    have hcz30_1 : wc.cell? ⟨gb163, 1, none⟩ = some (.string ((rd_T63 l1 x19_1).f1.f0)) := (blk_cell BK163.out 1).trans rfl
    have hcz30_2 : wc.cell? ⟨gb163, 2, none⟩ = some (.int .i64 ((rd_T63 l1 x19_1).f1.f1)) := (blk_cell BK163.out 2).trans rfl
    have hcz30_3 : wc.cell? ⟨gb163, 3, none⟩ = some (.bool ((rd_T63 l1 x19_1).f1.f2)) := (blk_cell BK163.out 3).trans rfl
    have hcz30_4 : wc.cell? ⟨gb163, 4, none⟩ = some (.bool ((rd_T63 l1 x19_1).f1.f3)) := (blk_cell BK163.out 4).trans rfl
    have hcz30_5 : wc.cell? ⟨gb163, 5, none⟩ = some (.bool ((rd_T63 l1 x19_1).f1.f4)) := (blk_cell BK163.out 5).trans rfl
    have hfz30_0 := blk_frozen BK163.out 0
    have hfz30_1 := blk_frozen BK163.out 1
    have hfz30_2 := blk_frozen BK163.out 2
    have hfz30_3 := blk_frozen BK163.out 3
    have hfz30_4 := blk_frozen BK163.out 4
    have hfz30_5 := blk_frozen BK163.out 5
    go_wp2_with (first | ((with_reducible refine gate_builtin (b := .append) (xs := #[.tmp 38, .tmp 41]) rfl ?_); at_builtin; refine Kd.R_append k50 (w0 := w) w.heap.size rfl (.tmp 38) (.tmp 41) 22 50 (.agg #[(.string ⟨#[]⟩), (.int .i64 0), (.bool false), (.bool false), (.bool false)]) 32 rfl Try.underlying22 info50 rfl (by decide) (by omega) u7 x7_1 (⟨((rd_T63 l1 x19_1).f1.f0), ((rd_T63 l1 x19_1).f1.f1), ((rd_T63 l1 x19_1).f1.f2), ((rd_T63 l1 x19_1).f1.f3), ((rd_T63 l1 x19_1).f1.f4)⟩ : S50) [.string ((rd_T63 l1 x19_1).f1.f0), .int .i64 ((rd_T63 l1 x19_1).f1.f1), .bool ((rd_T63 l1 x19_1).f1.f2), .bool ((rd_T63 l1 x19_1).f1.f3), .bool ((rd_T63 l1 x19_1).f1.f4)] (fun _ => True) (fun _ => False) rfl rfl ?aP (fun _ hk => hk.elim) ?aF ?aO ?aB ?aS ?aL ?_; (case aP => exact k50_mkM _ _ _ (⟨((rd_T63 l1 x19_1).f1.f0), ((rd_T63 l1 x19_1).f1.f1), ((rd_T63 l1 x19_1).f1.f2), ((rd_T63 l1 x19_1).f1.f3), ((rd_T63 l1 x19_1).f1.f4)⟩ : S50)); (case aB => exact (by repeat (first | (with_reducible first | exact HB.out | apply bA | apply bN | apply bD | refine below_set ?_ GE163.out) | exact HB.out))); (case aF => exact (fun _ _ => trivial)); (case aO => exact (by exact rel <| HO_7.out)); (case aS => exact (below_size (by repeat (first | (with_reducible first | exact HB.out | apply bA | apply bN | apply bD | refine below_set ?_ GE163.out) | exact HB.out)))); (case aL => have := LMc28.out; omega); intro v169 w31 ho hb hg hat; rw [← Ny168.out] at ho; have n0_ := aS (blk_grown (g := gb163) (o := .cells #[.int .i64 ((rd_T63 l1 x19_1).f0), .string ((rd_T63 l1 x19_1).f1.f0), .int .i64 ((rd_T63 l1 x19_1).f1.f1), .bool ((rd_T63 l1 x19_1).f1.f2), .bool ((rd_T63 l1 x19_1).f1.f3), .bool ((rd_T63 l1 x19_1).f1.f4)] 63 (0, 0)) (by (with_reducible repeat (first | refine blk_drewN ?_ _ | refine blk_drew ?_ | refine blk_alloc ?_ _)); exact BK163.out) hg (Kd.R_ne HO_7.out BK163.out (by decide))); have n1_ := aS (hb); have n2_ := aS (ho); clear BK163; clear HB; clear HO_7; have BK163 := n0_; have HB := n1_; have HO170 := n2_; clear n0_ n1_ n2_; clear ho hb hg hat; have hcz32_0 : w31.cell? ⟨gb163, 0, none⟩ = some (.int .i64 ((rd_T63 l1 x19_1).f0)) := (blk_cell BK163.out 0).trans rfl; have hcz32_1 : w31.cell? ⟨gb163, 1, none⟩ = some (.string ((rd_T63 l1 x19_1).f1.f0)) := (blk_cell BK163.out 1).trans rfl; have hcz32_2 : w31.cell? ⟨gb163, 2, none⟩ = some (.int .i64 ((rd_T63 l1 x19_1).f1.f1)) := (blk_cell BK163.out 2).trans rfl; have hcz32_3 : w31.cell? ⟨gb163, 3, none⟩ = some (.bool ((rd_T63 l1 x19_1).f1.f2)) := (blk_cell BK163.out 3).trans rfl; have hcz32_4 : w31.cell? ⟨gb163, 4, none⟩ = some (.bool ((rd_T63 l1 x19_1).f1.f3)) := (blk_cell BK163.out 4).trans rfl; have hcz32_5 : w31.cell? ⟨gb163, 5, none⟩ = some (.bool ((rd_T63 l1 x19_1).f1.f4)) := (blk_cell BK163.out 5).trans rfl; have hfz32_0 := blk_frozen BK163.out 0; have hfz32_1 := blk_frozen BK163.out 1; have hfz32_2 := blk_frozen BK163.out 2; have hfz32_3 := blk_frozen BK163.out 3; have hfz32_4 := blk_frozen BK163.out 4; have hfz32_5 := blk_frozen BK163.out 5))
    go_roundg kj21
    case measure => have := HK1.out; have := HJ21.out; omega
    case rel => exact ⟨(y168), (x8_1), (wrap64 (x19_1 + 1)), (by first | rfl | (simp; done) | (simp [*]; done)), (by first | rfl | (simp; done) | (simp [*]; done)), H', ⟨by have := HK1.out; have := HJ21.out; omega⟩, ⟨by exact rel <| HO170.out⟩, ⟨by repeat (first | (with_reducible first | exact HB.out | apply bA | apply bN | apply bD | refine below_set ?_ GE163.out) | exact HB.out)⟩⟩
end Go.Proofs.Ytjmbkbnbepmhjaa.P
