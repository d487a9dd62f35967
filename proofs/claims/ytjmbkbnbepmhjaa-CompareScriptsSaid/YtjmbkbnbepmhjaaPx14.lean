-- out of a program (drive.sh), by way of the translation's print
import Derived.Test.YtjmbkbnbepmhjaaPx0
import Derived.Test.YtjmbkbnbepmhjaaPx6
import Derived.Test.YtjmbkbnbepmhjaaPx12
namespace Go.Proofs.Ytjmbkbnbepmhjaa.P
open Go.RowKit Go.Proofs.YtjmbkbnbepmhjaaW.PrintWords Go.Proofs.YtjmbkbnbepmhjaaW.PrintLast Go.Proofs.YtjmbkbnbepmhjaaW.PrintMore
attribute [local go_sem] max2_int min2_int max_two min_two max_three min_three max_four min_four   -- for this text's walks alone
set_option linter.unusedVariables false
set_option linter.unusedSimpArgs false

/-! ### compare_Invert: function 22 -/
mutual
def compare_Invert.l0 : Nat → List (S50) → List (S63) → Int → List (S63) → Int → Int → Option ((List (S63)) × Int)
 | 0, _, _, _, _, _, _ => none
 | k + 1, x0, x7, x8, x18, x19, x20 => if x20 < x19 then (if 0 ≤ x20 then (if x20 < (x18.length : Int) then (if ((rd_T63 x18 x20).f0) = 2 then (compare_Invert.j1 k x0 x7 x8 x18 x19 x20 ((rd_T63 x18 x20).f0) (((rd_T63 x18 x20).f0) == 2) ((rd_T63 x18 x20).f0) ((rd_T63 x18 x20).f1.f0) ((rd_T63 x18 x20).f1.f1) ((rd_T63 x18 x20).f1.f2) ((rd_T63 x18 x20).f1.f3) ((rd_T63 x18 x20).f1.f4) ((rd_T63 x18 x20).f0) (⟨#[]⟩ : ByteArray) 0 false false false) else (compare_Invert.j1 k x0 x7 x8 x18 x19 x20 ((rd_T63 x18 x20).f0) (((rd_T63 x18 x20).f0) == 3) ((rd_T63 x18 x20).f0) ((rd_T63 x18 x20).f1.f0) ((rd_T63 x18 x20).f1.f1) ((rd_T63 x18 x20).f1.f2) ((rd_T63 x18 x20).f1.f3) ((rd_T63 x18 x20).f1.f4) ((rd_T63 x18 x20).f0) (⟨#[]⟩ : ByteArray) 0 false false false)) else (none)) else (none)) else (some (x7, 0))
def compare_Invert.j1 : Nat → List (S50) → List (S63) → Int → List (S63) → Int → Int → Int → Bool → Int → ByteArray → Int → Bool → Bool → Bool → Int → ByteArray → Int → Bool → Bool → Bool → Option ((List (S63)) × Int)
 | 0, _, _, _, _, _, _, _, _, _, _, _, _, _, _, _, _, _, _, _, _ => none
 | k + 1, x0, x7, x8, x18, x19, x20, x28, x29, x174000, x174001, x174002, x174003, x174004, x174005, x175000, x175001, x175002, x175003, x175004, x175005 => if x29 = true then (if 0 ≤ x8 then (if x8 < (x0.length : Int) then (if x7.length < 3518437208883 then ((some (x7 ++ [(⟨x175000, (⟨(rd_T50 x0 x8).f0, (rd_T50 x0 x8).f1, (rd_T50 x0 x8).f2, (rd_T50 x0 x8).f3, (rd_T50 x0 x8).f4⟩ : S50)⟩ : S63)] : List (S63))).bind fun y176 => (if x174000 = 4 then (compare_Invert.l0 k x0 y176 x8 x18 x19 (wrap64 (x20 + 1))) else (compare_Invert.l0 k x0 y176 (wrap64 (x8 + 1)) x18 x19 (wrap64 (x20 + 1))))) else (none)) else (none)) else (none)) else (if x28 = 4 then (if x7.length < 3518437208883 then ((some (x7 ++ [(⟨5, (⟨x175001, x175002, x175003, x175004, x175005⟩ : S50)⟩ : S63)] : List (S63))).bind fun y179 => (if x174000 = 4 then (compare_Invert.l0 k x0 y179 x8 x18 x19 (wrap64 (x20 + 1))) else (compare_Invert.l0 k x0 y179 (wrap64 (x8 + 1)) x18 x19 (wrap64 (x20 + 1))))) else (none)) else (if x28 = 5 then (if 0 ≤ x8 then (if x8 < (x0.length : Int) then (if x7.length < 3518437208883 then ((some (x7 ++ [(⟨4, (⟨(rd_T50 x0 x8).f0, (rd_T50 x0 x8).f1, (rd_T50 x0 x8).f2, (rd_T50 x0 x8).f3, (rd_T50 x0 x8).f4⟩ : S50)⟩ : S63)] : List (S63))).bind fun y183 => (if x174000 = 4 then (compare_Invert.l0 k x0 y183 x8 x18 x19 (wrap64 (x20 + 1))) else (compare_Invert.l0 k x0 y183 (wrap64 (x8 + 1)) x18 x19 (wrap64 (x20 + 1))))) else (none)) else (none)) else (none)) else (if x7.length < 3518437208883 then ((some (x7 ++ [(⟨x175000, (⟨x175001, x175002, x175003, x175004, x175005⟩ : S50)⟩ : S63)] : List (S63))).bind fun y186 => (if x174000 = 4 then (compare_Invert.l0 k x0 y186 x8 x18 x19 (wrap64 (x20 + 1))) else (compare_Invert.l0 k x0 y186 (wrap64 (x8 + 1)) x18 x19 (wrap64 (x20 + 1))))) else (none))))
end
def compare_Invert.f (k : Nat) (l0 : List (S50)) (l1 : List (S63)) : Option ((List (S63)) × Int) := (compare_fits.f k l0 l1).bind fun t171 => (if t171 = 0 then (compare_Invert.l0 k l0 ([] : List (S63)) 0 l1 (l1.length : Int) 0) else (some (([] : List (S63)), t171)))
theorem compare_Invert.mono_l : ∀ k, (∀ y0 y1 y2 y3 y4 y5, LeO (compare_Invert.l0 k y0 y1 y2 y3 y4 y5) (compare_Invert.l0 (k + 1) y0 y1 y2 y3 y4 y5)) ∧ (∀ y0 y1 y2 y3 y4 y5 y6 y7 y8 y9 y10 y11 y12 y13 y14 y15 y16 y17 y18 y19, LeO (compare_Invert.j1 k y0 y1 y2 y3 y4 y5 y6 y7 y8 y9 y10 y11 y12 y13 y14 y15 y16 y17 y18 y19) (compare_Invert.j1 (k + 1) y0 y1 y2 y3 y4 y5 y6 y7 y8 y9 y10 y11 y12 y13 y14 y15 y16 y17 y18 y19))
 | 0 => ⟨fun _ _ _ _ _ _ r h => by simp [compare_Invert.l0] at h, fun _ _ _ _ _ _ _ _ _ _ _ _ _ _ _ _ _ _ _ _ r h => by simp [compare_Invert.j1] at h⟩
 | k + 1 => by
  obtain ⟨ih0, ih1⟩ := compare_Invert.mono_l k
  refine ⟨?_, ?_⟩
  ·intro y0 y1 y2 y3 y4 y5
   unfold compare_Invert.l0
   repeat' first
   | (with_reducible exact ih0 _ _ _ _ _ _)
   | (with_reducible exact ih1 _ _ _ _ _ _ _ _ _ _ _ _ _ _ _ _ _ _ _ _)
   | (with_reducible exact compare_fits.mono _ _ _)
   | (with_reducible exact LeO.refl _)
   | (with_reducible exact LeO.none _)
   | (with_reducible refine LeO.ite ?_ ?_)
   | (with_reducible refine LeO.bind ?_ (fun _ => ?_))
   | exact ih0 _ _ _ _ _ _
   | exact ih1 _ _ _ _ _ _ _ _ _ _ _ _ _ _ _ _ _ _ _ _
   | exact compare_fits.mono _ _ _
   | exact LeO.none _
   | refine LeO.ite ?_ ?_
   | refine LeO.bind ?_ (fun _ => ?_)
  ·intro y0 y1 y2 y3 y4 y5 y6 y7 y8 y9 y10 y11 y12 y13 y14 y15 y16 y17 y18 y19
   unfold compare_Invert.j1
   repeat' first
   | (with_reducible exact ih0 _ _ _ _ _ _)
   | (with_reducible exact ih1 _ _ _ _ _ _ _ _ _ _ _ _ _ _ _ _ _ _ _ _)
   | (with_reducible exact compare_fits.mono _ _ _)
   | (with_reducible exact LeO.refl _)
   | (with_reducible exact LeO.none _)
   | (with_reducible refine LeO.ite ?_ ?_)
   | (with_reducible refine LeO.bind ?_ (fun _ => ?_))
   | exact ih0 _ _ _ _ _ _
   | exact ih1 _ _ _ _ _ _ _ _ _ _ _ _ _ _ _ _ _ _ _ _
   | exact compare_fits.mono _ _ _
   | exact LeO.none _
   | refine LeO.ite ?_ ?_
   | refine LeO.bind ?_ (fun _ => ?_)
theorem compare_Invert.mono : ∀ a0 a1 k, LeO (compare_Invert.f k a0 a1) (compare_Invert.f (k + 1) a0 a1) := by
 intro a0 a1 k
 obtain ⟨ih0, ih1⟩ := compare_Invert.mono_l k
 unfold compare_Invert.f
 repeat' first
   | (with_reducible exact ih0 _ _ _ _ _ _)
   | (with_reducible exact ih1 _ _ _ _ _ _ _ _ _ _ _ _ _ _ _ _ _ _ _ _)
   | (with_reducible exact compare_fits.mono _ _ _)
   | (with_reducible exact LeO.refl _)
   | (with_reducible exact LeO.none _)
   | (with_reducible refine LeO.ite ?_ ?_)
   | (with_reducible refine LeO.bind ?_ (fun _ => ?_))
   | exact ih0 _ _ _ _ _ _
   | exact ih1 _ _ _ _ _ _ _ _ _ _ _ _ _ _ _ _ _ _ _ _
   | exact compare_fits.mono _ _ _
   | exact LeO.none _
   | refine LeO.ite ?_ ?_
   | refine LeO.bind ?_ (fun _ => ?_)
set_option maxHeartbeats 8000000 in
set_option maxRecDepth 100000 in
theorem compare_Invert.calls (k : Nat) (A0 : Option Addr) (c0 : Nat) (l0 : List (S50)) (A1 : Option Addr) (c1 : Nat) (l1 : List (S63)) (r1 : List (S63)) (r2 : Int) (w : World) (hr0 : Kd.C k50 w A0 l0.length l0) (hc0 : l0.length ≤ c0) (hr1 : Kd.C k63 w A1 l1.length l1) (hc1 : l1.length ≤ c1) (h : compare_Invert.f k l0 l1 = some (r1, r2)) :
  Calls Try.prog 22 #[.slice A0 l0.length c0, .slice A1 l1.length c1] w fun e w' => ∃ v0_ : Value, e = .returned (.tuple #[v0_, .int .i64 r2]) ∧ Kd.R k63 63 w' w.heap.size (fun _ => True) v0_ r1 ∧ Below w.heap.size w w' := by
 have hu63 := Try.underlying63
 have hu50 := Try.underlying50
 have HR0 := aS hr0
 have HC0 := aS hc0
 clear hr0 hc0
 have HR1 := aS hr1
 have HC1 := aS hc1
 clear hr1 hc1
 have HB := aS (Below.refl w.heap.size w)
 have H : ((compare_fits.f k l0 l1).bind fun t171 => (if t171 = 0 then (compare_Invert.l0 k l0 ([] : List (S63)) 0 l1 (l1.length : Int) 0) else (some (([] : List (S63)), t171)))) = some (r1, r2) := h
 clear h
 replace H := Option.bind_eq_some_iff.mp H
 obtain ⟨t171, A30, H⟩ := H
 replace H : (if t171 = 0 then (compare_Invert.l0 k l0 ([] : List (S63)) 0 l1 (l1.length : Int) 0) else (some (([] : List (S63)), t171))) = some (r1, r2) := H
 have A3 := aS A30
 clear A30
 by_cases c4 : t171 = 0
 rotate_left
 ·rw [if_neg c4] at H
  have c4b0 : (t171 == 0) = false := beq_eq_false_iff_ne.mpr c4
  have c4b1 : (t171 != 0) = true := bne_iff_ne.mpr c4
  simp only [Option.some.injEq, Prod.mk.injEq] at H
  obtain ⟨rfl, rfl⟩ := H
  go_enter Try.func22, Try.ntmps22
  go_wp2_with (first | ((with_reducible refine gate_callee (f := 37) rfl ?_); refine goesL_ (some 14) rfl rfl Try.func37 (by kernel_rfl) rfl #[.slice A0 l0.length c0, .slice A1 l1.length c1] rfl (by (try simp only [List.map_toArray, List.map_cons, List.map_nil]); first | done | rfl | (simp only [List.length_drop, List.length_take]; rfl)) ?_; (with_reducible refine (compare_fits.calls k _ _ l0 _ _ l1 t171 _ ?side1 ?side2 ?side3 ?side4 A3.out).mono ?_); (case side1 => repeat (first | exact HR0.out | (with_reducible apply Kd.C_alloc) | (with_reducible apply Kd.C_drewN) | (with_reducible apply Kd.C_drew))); (case side2 => exact HC0.out); (case side3 => repeat (first | exact HR1.out | (with_reducible apply Kd.C_alloc) | (with_reducible apply Kd.C_drewN) | (with_reducible apply Kd.C_drew))); (case side4 => exact HC1.out); rintro e w64 ⟨rfl, hb⟩; refine ⟨_, rfl, ?_⟩; have n0_ := aS (below_step (by first | exact bel HB.out | exact HB.out) hb); clear HB; have HB := n0_; clear n0_; (try clear hb); (try clear hb2); (try clear hk); (try clear hi)))
  go_ret2
  exact ⟨_, by first | rfl | (simp [errW_none, errW_some] <;> rfl) | (simp [*, errW_none, errW_some] <;> rfl), by first | exact Kd.R_nil _ _ _ _ _ | exact Kd.N_nil _ _ _ _ _ | exact Kd.V_nil _ _ _ _ _ | exact Kd.Q_nil _ _ _ _ _ | exact Kd.S_nil _ _ _ _ _, by first | exact bel HB.out | exact HB.out⟩

 rw [if_pos c4] at H
 have c4b0 : (t171 == 0) = true := beq_iff_eq.mpr c4
 have c4b1 : (t171 != 0) = false := bne_eq_false_iff_eq.mpr c4
 clear c4
 have H' := aS H
 clear H
 go_enter Try.func22, Try.ntmps22
 go_wp2_with (first | ((with_reducible refine gate_callee (f := 37) rfl ?_); refine goesL_ (some 14) rfl rfl Try.func37 (by kernel_rfl) rfl #[.slice A0 l0.length c0, .slice A1 l1.length c1] rfl (by (try simp only [List.map_toArray, List.map_cons, List.map_nil]); first | done | rfl | (simp only [List.length_drop, List.length_take]; rfl)) ?_; (with_reducible refine (compare_fits.calls k _ _ l0 _ _ l1 t171 _ ?side1 ?side2 ?side3 ?side4 A3.out).mono ?_); (case side1 => repeat (first | exact HR0.out | (with_reducible apply Kd.C_alloc) | (with_reducible apply Kd.C_drewN) | (with_reducible apply Kd.C_drew))); (case side2 => exact HC0.out); (case side3 => repeat (first | exact HR1.out | (with_reducible apply Kd.C_alloc) | (with_reducible apply Kd.C_drewN) | (with_reducible apply Kd.C_drew))); (case side4 => exact HC1.out); rintro e w5 ⟨rfl, hb⟩; refine ⟨_, rfl, ?_⟩; have n0_ := aS (below_step (by first | exact bel HB.out | exact HB.out) hb); clear HB; have HB := n0_; clear n0_; (try clear hb); (try clear hb2); (try clear hk); (try clear hi)))
 go_loopg [7, 8, 20] k (fun kq v7 v8 v20 w' => ∃ (x7_1 : List (S63)) (x8_1 : Int) (x20_1 : Int), v8 = .int .i64 x8_1 ∧ v20 = .int .i64 x20_1 ∧ Aside0 (compare_Invert.l0 kq l0 x7_1 x8_1 l1 (l1.length : Int) x20_1 = some (r1, r2)) ∧ Aside0 (kq ≤ k) ∧ Aside0 (Kd.R k63 63 w' w.heap.size (fun _ => True) v7 x7_1) ∧ Aside0 (Below w.heap.size w w'))
 case atStart => exact ⟨(([] : List (S63))), (0), (0), (by first | rfl | (simp; done) | (simp [*]; done)), (by first | rfl | (simp; done) | (simp [*]; done)), H', ⟨Nat.le_refl _⟩, ⟨by first | exact Kd.R_nil _ _ _ _ _ | exact Kd.N_nil _ _ _ _ _ | exact Kd.V_nil _ _ _ _ _ | exact Kd.Q_nil _ _ _ _ _ | exact Kd.S_nil _ _ _ _ _⟩, ⟨by first | exact bel HB.out | exact HB.out⟩⟩
 case round =>
  clear H'
  try clear c1
  try clear c2
  try clear p2
  try clear c3
  try clear c4
  try clear c4b0
  try clear c4b1
  obtain ⟨x7_1, x8_1, x20_1, rfl, rfl, HA, HK1, HO_7, HB⟩ := hrel
  cases gk with
  | zero => exact absurd HA.out (by simp [compare_Invert.l0])
  | succ k1 =>
   have H := HA.out
   clear HA
   simp only [compare_Invert.l0] at H
   by_cases c6 : x20_1 < (l1.length : Int)
   rotate_left
   ·rw [if_neg c6] at H
    have c6b0 : decide (x20_1 < (l1.length : Int)) = false := decide_eq_false c6
    clear c6
    simp only [Option.some.injEq, Prod.mk.injEq] at H
    obtain ⟨rfl, rfl⟩ := H
    go_wp2
    go_ret2
    exact ⟨_, by first | rfl | (simp [errW_none, errW_some] <;> rfl) | (simp [*, errW_none, errW_some] <;> rfl), by exact rel <| HO_7.out, by first | exact bel HB.out | exact HB.out⟩
   rw [if_pos c6] at H
   have c6b0 : decide (x20_1 < (l1.length : Int)) = true := decide_eq_true c6
   clear c6
   by_cases c7 : 0 ≤ x20_1
   rotate_left
   ·rw [if_neg c7] at H
    exact absurd H (by simp)
   rw [if_pos c7] at H
   have c7b0 : decide (0 ≤ x20_1) = true := decide_eq_true c7
   clear c7
   by_cases c8 : x20_1 < (l1.length : Int)
   rotate_left
   ·rw [if_neg c8] at H
    exact absurd H (by simp)
   rw [if_pos c8] at H
   have c8b0 : decide (x20_1 < (l1.length : Int)) = true := decide_eq_true c8
   clear c8
   have HC9 := aS H
   clear H
   have p172 : 0 ≤ (x20_1 : Int) := of_decide_eq_true (by first | (with_reducible assumption) | assumption)
   have q172 : x20_1 < (l1.length : Int) := of_decide_eq_true (by first | (with_reducible assumption) | assumption)
   obtain ⟨ad172, e172, hx172_0, hx172_1, hx172_2, hx172_3, hx172_4, hx172_5⟩ := at_T63 HR1.out x20_1 p172 q172
   cases e172
   replace hx172_0 := hup HB.out hx172_0
   replace hx172_1 := hup HB.out hx172_1
   replace hx172_2 := hup HB.out hx172_2
   replace hx172_3 := hup HB.out hx172_3
   replace hx172_4 := hup HB.out hx172_4
   replace hx172_5 := hup HB.out hx172_5
   replace p172 := eq_true p172
   replace q172 := eq_true q172
   go_upto_if 29 with (first | ((with_reducible refine gate_dst (N := 10) rfl ?_); refine box_event ?hg (N := 10) ?hd (cs := #[.int .i64 0, .string (⟨#[]⟩ : ByteArray), .int .i64 0, .bool false, .bool false, .bool false]) (t := 63) ?hr ?_; (case hd => rfl); (case hg => rfl); (case hr => first | (go_simp; done) | (go_simp; rfl)); intro gb173 hg w10 hbox hb; have n0_ := aS (Kd.R_below (Kd.R_elderB (by exact rel <| HO_7.out) gb173 (Nat.le_of_eq hg.symm)) hb); have n1_ := aS (below_step (by first | exact bel HB.out | exact HB.out) hb); have n2_ := aS (hbox); have n3_ := aS ((by rw [hg]; exact (below_size (by first | exact bel HB.out | exact HB.out)) : w.heap.size ≤ gb173)); have n4_ := aS ((by rw [hg]; exact (below_size (by first | exact bel HB.out | exact HB.out)) : w.heap.size ≤ gb173)); clear HO_7; clear HB; have HO_7 := n0_; have HB := n1_; have BK173 := n2_; have GW173 := n3_; have GE173 := n4_; clear n0_ n1_ n2_ n3_ n4_; clear hb hbox hg; have hcz11_0 : w10.cell? ⟨gb173, 0, none⟩ = some (.int .i64 0) := (blk_cell BK173.out 0).trans rfl; have hcz11_1 : w10.cell? ⟨gb173, 1, none⟩ = some (.string (⟨#[]⟩ : ByteArray)) := (blk_cell BK173.out 1).trans rfl; have hcz11_2 : w10.cell? ⟨gb173, 2, none⟩ = some (.int .i64 0) := (blk_cell BK173.out 2).trans rfl; have hcz11_3 : w10.cell? ⟨gb173, 3, none⟩ = some (.bool false) := (blk_cell BK173.out 3).trans rfl; have hcz11_4 : w10.cell? ⟨gb173, 4, none⟩ = some (.bool false) := (blk_cell BK173.out 4).trans rfl; have hcz11_5 : w10.cell? ⟨gb173, 5, none⟩ = some (.bool false) := (blk_cell BK173.out 5).trans rfl; have hfz11_0 := blk_frozen BK173.out 0; have hfz11_1 := blk_frozen BK173.out 1; have hfz11_2 := blk_frozen BK173.out 2; have hfz11_3 := blk_frozen BK173.out 3; have hfz11_4 := blk_frozen BK173.out 4; have hfz11_5 := blk_frozen BK173.out 5) | ((with_reducible refine gate_dst (N := 11) rfl ?_); refine box_event ?hg (N := 11) ?hd (cs := #[.int .i64 0, .string (⟨#[]⟩ : ByteArray), .int .i64 0, .bool false, .bool false, .bool false]) (t := 63) ?hr ?_; (case hd => rfl); (case hg => rfl); (case hr => first | (go_simp; done) | (go_simp; rfl)); intro gb174 hg w12 hbox hb; have n0_ := aS (Kd.R_below (Kd.R_elderB (by exact rel <| (Kd.R_mono (Kd.R_far (p := ⟨gb173, 5, none⟩) (Kd.R_far (p := ⟨gb173, 4, none⟩) (Kd.R_far (p := ⟨gb173, 3, none⟩) (Kd.R_far (p := ⟨gb173, 2, none⟩) (Kd.R_far (p := ⟨gb173, 1, none⟩) (Kd.R_far (p := ⟨gb173, 0, none⟩) (Kd.R_mono HO_7.out (fun k_ hk => (⟨hk, hk.2⟩ : _ ∧ k_ ≠ gb173))) (fun _ hk => hk.2) (.int .i64 ((rd_T63 l1 x20_1).f0))) (fun _ hk => hk.2) (.string ((rd_T63 l1 x20_1).f1.f0))) (fun _ hk => hk.2) (.int .i64 ((rd_T63 l1 x20_1).f1.f1))) (fun _ hk => hk.2) (.bool ((rd_T63 l1 x20_1).f1.f2))) (fun _ hk => hk.2) (.bool ((rd_T63 l1 x20_1).f1.f3))) (fun _ hk => hk.2) (.bool ((rd_T63 l1 x20_1).f1.f4))) (fun _ h_ => h_.1))) gb174 (Nat.le_of_eq hg.symm)) hb); have n1_ := aS (blk_below (g := gb173) (o := .cells #[.int .i64 ((rd_T63 l1 x20_1).f0), .string ((rd_T63 l1 x20_1).f1.f0), .int .i64 ((rd_T63 l1 x20_1).f1.f1), .bool ((rd_T63 l1 x20_1).f1.f2), .bool ((rd_T63 l1 x20_1).f1.f3), .bool ((rd_T63 l1 x20_1).f1.f4)] 63 (0, 0)) (by (with_reducible repeat (first | refine blk_drewN ?_ _ | refine blk_drew ?_ | refine blk_alloc ?_ _)); refine blk_put (cs := #[.int .i64 ((rd_T63 l1 x20_1).f0), .string ((rd_T63 l1 x20_1).f1.f0), .int .i64 ((rd_T63 l1 x20_1).f1.f1), .bool ((rd_T63 l1 x20_1).f1.f2), .bool ((rd_T63 l1 x20_1).f1.f3), .bool false]) ?_ 5 _ rfl; (with_reducible repeat (first | refine blk_drewN ?_ _ | refine blk_drew ?_ | refine blk_alloc ?_ _)); refine blk_put (cs := #[.int .i64 ((rd_T63 l1 x20_1).f0), .string ((rd_T63 l1 x20_1).f1.f0), .int .i64 ((rd_T63 l1 x20_1).f1.f1), .bool ((rd_T63 l1 x20_1).f1.f2), .bool false, .bool false]) ?_ 4 _ rfl; (with_reducible repeat (first | refine blk_drewN ?_ _ | refine blk_drew ?_ | refine blk_alloc ?_ _)); refine blk_put (cs := #[.int .i64 ((rd_T63 l1 x20_1).f0), .string ((rd_T63 l1 x20_1).f1.f0), .int .i64 ((rd_T63 l1 x20_1).f1.f1), .bool false, .bool false, .bool false]) ?_ 3 _ rfl; (with_reducible repeat (first | refine blk_drewN ?_ _ | refine blk_drew ?_ | refine blk_alloc ?_ _)); refine blk_put (cs := #[.int .i64 ((rd_T63 l1 x20_1).f0), .string ((rd_T63 l1 x20_1).f1.f0), .int .i64 0, .bool false, .bool false, .bool false]) ?_ 2 _ rfl; (with_reducible repeat (first | refine blk_drewN ?_ _ | refine blk_drew ?_ | refine blk_alloc ?_ _)); refine blk_put (cs := #[.int .i64 ((rd_T63 l1 x20_1).f0), .string (⟨#[]⟩ : ByteArray), .int .i64 0, .bool false, .bool false, .bool false]) ?_ 1 _ rfl; (with_reducible repeat (first | refine blk_drewN ?_ _ | refine blk_drew ?_ | refine blk_alloc ?_ _)); refine blk_put (cs := #[.int .i64 0, .string (⟨#[]⟩ : ByteArray), .int .i64 0, .bool false, .bool false, .bool false]) ?_ 0 _ rfl; (with_reducible repeat (first | refine blk_drewN ?_ _ | refine blk_drew ?_ | refine blk_alloc ?_ _)); exact BK173.out) hb); have n2_ := aS (below_step (by repeat (first | (with_reducible first | exact HB.out | apply bA | apply bN | apply bD | refine below_set ?_ GE173.out) | exact HB.out)) hb); have n3_ := aS (hbox); have n4_ := aS ((by rw [hg]; exact (below_size (by repeat (first | (with_reducible first | exact HB.out | apply bA | apply bN | apply bD | refine below_set ?_ GE173.out) | exact HB.out))) : w.heap.size ≤ gb174)); have n5_ := aS ((by rw [hg]; exact (below_size (by repeat (first | (with_reducible first | exact HB.out | apply bA | apply bN | apply bD | refine below_set ?_ GE173.out) | exact HB.out))) : w.heap.size ≤ gb174)); have n6_ := aS ((by rw [hg]; exact Nat.ne_of_lt (blk_lt (g := gb173) (o := .cells #[.int .i64 ((rd_T63 l1 x20_1).f0), .string ((rd_T63 l1 x20_1).f1.f0), .int .i64 ((rd_T63 l1 x20_1).f1.f1), .bool ((rd_T63 l1 x20_1).f1.f2), .bool ((rd_T63 l1 x20_1).f1.f3), .bool ((rd_T63 l1 x20_1).f1.f4)] 63 (0, 0)) (by (with_reducible repeat (first | refine blk_drewN ?_ _ | refine blk_drew ?_ | refine blk_alloc ?_ _)); refine blk_put (cs := #[.int .i64 ((rd_T63 l1 x20_1).f0), .string ((rd_T63 l1 x20_1).f1.f0), .int .i64 ((rd_T63 l1 x20_1).f1.f1), .bool ((rd_T63 l1 x20_1).f1.f2), .bool ((rd_T63 l1 x20_1).f1.f3), .bool false]) ?_ 5 _ rfl; (with_reducible repeat (first | refine blk_drewN ?_ _ | refine blk_drew ?_ | refine blk_alloc ?_ _)); refine blk_put (cs := #[.int .i64 ((rd_T63 l1 x20_1).f0), .string ((rd_T63 l1 x20_1).f1.f0), .int .i64 ((rd_T63 l1 x20_1).f1.f1), .bool ((rd_T63 l1 x20_1).f1.f2), .bool false, .bool false]) ?_ 4 _ rfl; (with_reducible repeat (first | refine blk_drewN ?_ _ | refine blk_drew ?_ | refine blk_alloc ?_ _)); refine blk_put (cs := #[.int .i64 ((rd_T63 l1 x20_1).f0), .string ((rd_T63 l1 x20_1).f1.f0), .int .i64 ((rd_T63 l1 x20_1).f1.f1), .bool false, .bool false, .bool false]) ?_ 3 _ rfl; (with_reducible repeat (first | refine blk_drewN ?_ _ | refine blk_drew ?_ | refine blk_alloc ?_ _)); refine blk_put (cs := #[.int .i64 ((rd_T63 l1 x20_1).f0), .string ((rd_T63 l1 x20_1).f1.f0), .int .i64 0, .bool false, .bool false, .bool false]) ?_ 2 _ rfl; (with_reducible repeat (first | refine blk_drewN ?_ _ | refine blk_drew ?_ | refine blk_alloc ?_ _)); refine blk_put (cs := #[.int .i64 ((rd_T63 l1 x20_1).f0), .string (⟨#[]⟩ : ByteArray), .int .i64 0, .bool false, .bool false, .bool false]) ?_ 1 _ rfl; (with_reducible repeat (first | refine blk_drewN ?_ _ | refine blk_drew ?_ | refine blk_alloc ?_ _)); refine blk_put (cs := #[.int .i64 0, .string (⟨#[]⟩ : ByteArray), .int .i64 0, .bool false, .bool false, .bool false]) ?_ 0 _ rfl; (with_reducible repeat (first | refine blk_drewN ?_ _ | refine blk_drew ?_ | refine blk_alloc ?_ _)); exact BK173.out)) : gb173 ≠ gb174)); have n7_ := aS ((by rw [hg]; exact Nat.ne_of_gt (blk_lt (g := gb173) (o := .cells #[.int .i64 ((rd_T63 l1 x20_1).f0), .string ((rd_T63 l1 x20_1).f1.f0), .int .i64 ((rd_T63 l1 x20_1).f1.f1), .bool ((rd_T63 l1 x20_1).f1.f2), .bool ((rd_T63 l1 x20_1).f1.f3), .bool ((rd_T63 l1 x20_1).f1.f4)] 63 (0, 0)) (by (with_reducible repeat (first | refine blk_drewN ?_ _ | refine blk_drew ?_ | refine blk_alloc ?_ _)); refine blk_put (cs := #[.int .i64 ((rd_T63 l1 x20_1).f0), .string ((rd_T63 l1 x20_1).f1.f0), .int .i64 ((rd_T63 l1 x20_1).f1.f1), .bool ((rd_T63 l1 x20_1).f1.f2), .bool ((rd_T63 l1 x20_1).f1.f3), .bool false]) ?_ 5 _ rfl; (with_reducible repeat (first | refine blk_drewN ?_ _ | refine blk_drew ?_ | refine blk_alloc ?_ _)); refine blk_put (cs := #[.int .i64 ((rd_T63 l1 x20_1).f0), .string ((rd_T63 l1 x20_1).f1.f0), .int .i64 ((rd_T63 l1 x20_1).f1.f1), .bool ((rd_T63 l1 x20_1).f1.f2), .bool false, .bool false]) ?_ 4 _ rfl; (with_reducible repeat (first | refine blk_drewN ?_ _ | refine blk_drew ?_ | refine blk_alloc ?_ _)); refine blk_put (cs := #[.int .i64 ((rd_T63 l1 x20_1).f0), .string ((rd_T63 l1 x20_1).f1.f0), .int .i64 ((rd_T63 l1 x20_1).f1.f1), .bool false, .bool false, .bool false]) ?_ 3 _ rfl; (with_reducible repeat (first | refine blk_drewN ?_ _ | refine blk_drew ?_ | refine blk_alloc ?_ _)); refine blk_put (cs := #[.int .i64 ((rd_T63 l1 x20_1).f0), .string ((rd_T63 l1 x20_1).f1.f0), .int .i64 0, .bool false, .bool false, .bool false]) ?_ 2 _ rfl; (with_reducible repeat (first | refine blk_drewN ?_ _ | refine blk_drew ?_ | refine blk_alloc ?_ _)); refine blk_put (cs := #[.int .i64 ((rd_T63 l1 x20_1).f0), .string (⟨#[]⟩ : ByteArray), .int .i64 0, .bool false, .bool false, .bool false]) ?_ 1 _ rfl; (with_reducible repeat (first | refine blk_drewN ?_ _ | refine blk_drew ?_ | refine blk_alloc ?_ _)); refine blk_put (cs := #[.int .i64 0, .string (⟨#[]⟩ : ByteArray), .int .i64 0, .bool false, .bool false, .bool false]) ?_ 0 _ rfl; (with_reducible repeat (first | refine blk_drewN ?_ _ | refine blk_drew ?_ | refine blk_alloc ?_ _)); exact BK173.out)) : gb174 ≠ gb173)); clear HO_7; clear BK173; clear HB; have HO_7 := n0_; have BK173 := n1_; have HB := n2_; have BK174 := n3_; have GW174 := n4_; have GE174 := n5_; have NB173_174 := n6_; have NB174_173 := n7_; clear n0_ n1_ n2_ n3_ n4_ n5_ n6_ n7_; clear hb hbox hg; have hnb13 := NB174_173.out; have hnc13 := NB173_174.out; have hcz14_0 : w12.cell? ⟨gb174, 0, none⟩ = some (.int .i64 0) := (blk_cell BK174.out 0).trans rfl; have hcz14_1 : w12.cell? ⟨gb174, 1, none⟩ = some (.string (⟨#[]⟩ : ByteArray)) := (blk_cell BK174.out 1).trans rfl; have hcz14_2 : w12.cell? ⟨gb174, 2, none⟩ = some (.int .i64 0) := (blk_cell BK174.out 2).trans rfl; have hcz14_3 : w12.cell? ⟨gb174, 3, none⟩ = some (.bool false) := (blk_cell BK174.out 3).trans rfl; have hcz14_4 : w12.cell? ⟨gb174, 4, none⟩ = some (.bool false) := (blk_cell BK174.out 4).trans rfl; have hcz14_5 : w12.cell? ⟨gb174, 5, none⟩ = some (.bool false) := (blk_cell BK174.out 5).trans rfl; have hfz14_0 := blk_frozen BK174.out 0; have hfz14_1 := blk_frozen BK174.out 1; have hfz14_2 := blk_frozen BK174.out 2; have hfz14_3 := blk_frozen BK174.out 3; have hfz14_4 := blk_frozen BK174.out 4; have hfz14_5 := blk_frozen BK174.out 5; have hcz15_0 : w12.cell? ⟨gb173, 0, none⟩ = some (.int .i64 ((rd_T63 l1 x20_1).f0)) := (blk_cell BK173.out 0).trans rfl; have hcz15_1 : w12.cell? ⟨gb173, 1, none⟩ = some (.string ((rd_T63 l1 x20_1).f1.f0)) := (blk_cell BK173.out 1).trans rfl; have hcz15_2 : w12.cell? ⟨gb173, 2, none⟩ = some (.int .i64 ((rd_T63 l1 x20_1).f1.f1)) := (blk_cell BK173.out 2).trans rfl; have hcz15_3 : w12.cell? ⟨gb173, 3, none⟩ = some (.bool ((rd_T63 l1 x20_1).f1.f2)) := (blk_cell BK173.out 3).trans rfl; have hcz15_4 : w12.cell? ⟨gb173, 4, none⟩ = some (.bool ((rd_T63 l1 x20_1).f1.f3)) := (blk_cell BK173.out 4).trans rfl; have hcz15_5 : w12.cell? ⟨gb173, 5, none⟩ = some (.bool ((rd_T63 l1 x20_1).f1.f4)) := (blk_cell BK173.out 5).trans rfl; have hfz15_0 := blk_frozen BK173.out 0; have hfz15_1 := blk_frozen BK173.out 1; have hfz15_2 := blk_frozen BK173.out 2; have hfz15_3 := blk_frozen BK173.out 3; have hfz15_4 := blk_frozen BK173.out 4; have hfz15_5 := blk_frozen BK173.out 5))
   (try simp only [Act.put, List.setIfInBounds_toArray, List.set_cons_zero, List.set_cons_succ])
   go_cut [29] (fun v29 wc => ∃ (kq : Nat) (x29_8 : Bool), v29 = .bool x29_8 ∧ Aside0 (compare_Invert.j1 kq l0 x7_1 x8_1 l1 (l1.length : Int) x20_1 ((rd_T63 l1 x20_1).f0) x29_8 ((rd_T63 l1 x20_1).f0) ((rd_T63 l1 x20_1).f1.f0) ((rd_T63 l1 x20_1).f1.f1) ((rd_T63 l1 x20_1).f1.f2) ((rd_T63 l1 x20_1).f1.f3) ((rd_T63 l1 x20_1).f1.f4) ((rd_T63 l1 x20_1).f0) (⟨#[]⟩ : ByteArray) 0 false false false = some (r1, r2)) ∧ Aside0 (kq ≤ k1) ∧ Aside0 (Kd.R k63 63 wc w.heap.size (fun k_ => k_ ≠ gb173 ∧ k_ ≠ gb174) u7 x7_1) ∧ Aside0 (wc.heap[gb173]? = some (.cells #[.int .i64 ((rd_T63 l1 x20_1).f0), .string ((rd_T63 l1 x20_1).f1.f0), .int .i64 ((rd_T63 l1 x20_1).f1.f1), .bool ((rd_T63 l1 x20_1).f1.f2), .bool ((rd_T63 l1 x20_1).f1.f3), .bool ((rd_T63 l1 x20_1).f1.f4)] 63 (0, 0))) ∧ Aside0 (wc.heap[gb174]? = some (.cells #[.int .i64 ((rd_T63 l1 x20_1).f0), .string (⟨#[]⟩ : ByteArray), .int .i64 0, .bool false, .bool false, .bool false] 63 (0, 0))) ∧ Aside0 (Below w.heap.size w wc))
   case first =>
    have H := HC9.out
    clear HC9
    by_cases c16 : ((rd_T63 l1 x20_1).f0) = 2
    rotate_left
    ·rw [if_neg c16] at H
     have c16b0 : (((rd_T63 l1 x20_1).f0) == 2) = false := beq_eq_false_iff_ne.mpr c16
     have c16b1 : (((rd_T63 l1 x20_1).f0) != 2) = true := bne_iff_ne.mpr c16
     (first | rw [c16b0] | (simp only [i64_w, i32_w]; rw [c16b0]) | skip)
     have H' := aS H
     clear H
     go_wp2
     go_meet
     case rel => exact ⟨_, ((((rd_T63 l1 x20_1).f0) == 3)), (by first | rfl | (simp; done) | (simp [*]; done)), H', ⟨by have := HK1.out; first | omega | exact Nat.le_refl _⟩, ⟨by exact rel <| Kd.R_mono (Kd.R_far (p := ⟨gb174, 5, none⟩) (Kd.R_far (p := ⟨gb174, 4, none⟩) (Kd.R_far (p := ⟨gb174, 3, none⟩) (Kd.R_far (p := ⟨gb174, 2, none⟩) (Kd.R_far (p := ⟨gb174, 1, none⟩) (Kd.R_far (p := ⟨gb174, 0, none⟩) (Kd.R_mono HO_7.out (fun k_ hk => (⟨hk, hk.2⟩ : _ ∧ k_ ≠ gb174))) (fun _ hk => hk.2) (.int .i64 ((rd_T63 l1 x20_1).f0))) (fun _ hk => hk.2) (.string (⟨#[]⟩ : ByteArray))) (fun _ hk => hk.2) (.int .i64 0)) (fun _ hk => hk.2) (.bool false)) (fun _ hk => hk.2) (.bool false)) (fun _ hk => hk.2) (.bool false)) (fun _ hk => ⟨hk.1.1.2, hk.1.2⟩)⟩, ⟨by (with_reducible repeat (first | refine blk_drewN ?_ _ | refine blk_drew ?_ | refine blk_alloc ?_ _)); refine blk_far ?_ NB173_174.out _; (with_reducible repeat (first | refine blk_drewN ?_ _ | refine blk_drew ?_ | refine blk_alloc ?_ _)); refine blk_far ?_ NB173_174.out _; (with_reducible repeat (first | refine blk_drewN ?_ _ | refine blk_drew ?_ | refine blk_alloc ?_ _)); refine blk_far ?_ NB173_174.out _; (with_reducible repeat (first | refine blk_drewN ?_ _ | refine blk_drew ?_ | refine blk_alloc ?_ _)); refine blk_far ?_ NB173_174.out _; (with_reducible repeat (first | refine blk_drewN ?_ _ | refine blk_drew ?_ | refine blk_alloc ?_ _)); refine blk_far ?_ NB173_174.out _; (with_reducible repeat (first | refine blk_drewN ?_ _ | refine blk_drew ?_ | refine blk_alloc ?_ _)); refine blk_far ?_ NB173_174.out _; (with_reducible repeat (first | refine blk_drewN ?_ _ | refine blk_drew ?_ | refine blk_alloc ?_ _)); exact BK173.out⟩, ⟨by (with_reducible repeat (first | refine blk_drewN ?_ _ | refine blk_drew ?_ | refine blk_alloc ?_ _)); refine blk_put (cs := #[.int .i64 ((rd_T63 l1 x20_1).f0), .string (⟨#[]⟩ : ByteArray), .int .i64 0, .bool false, .bool false, .bool false]) ?_ 5 _ rfl; (with_reducible repeat (first | refine blk_drewN ?_ _ | refine blk_drew ?_ | refine blk_alloc ?_ _)); refine blk_put (cs := #[.int .i64 ((rd_T63 l1 x20_1).f0), .string (⟨#[]⟩ : ByteArray), .int .i64 0, .bool false, .bool false, .bool false]) ?_ 4 _ rfl; (with_reducible repeat (first | refine blk_drewN ?_ _ | refine blk_drew ?_ | refine blk_alloc ?_ _)); refine blk_put (cs := #[.int .i64 ((rd_T63 l1 x20_1).f0), .string (⟨#[]⟩ : ByteArray), .int .i64 0, .bool false, .bool false, .bool false]) ?_ 3 _ rfl; (with_reducible repeat (first | refine blk_drewN ?_ _ | refine blk_drew ?_ | refine blk_alloc ?_ _)); refine blk_put (cs := #[.int .i64 ((rd_T63 l1 x20_1).f0), .string (⟨#[]⟩ : ByteArray), .int .i64 0, .bool false, .bool false, .bool false]) ?_ 2 _ rfl; (with_reducible repeat (first | refine blk_drewN ?_ _ | refine blk_drew ?_ | refine blk_alloc ?_ _)); refine blk_put (cs := #[.int .i64 ((rd_T63 l1 x20_1).f0), .string (⟨#[]⟩ : ByteArray), .int .i64 0, .bool false, .bool false, .bool false]) ?_ 1 _ rfl; (with_reducible repeat (first | refine blk_drewN ?_ _ | refine blk_drew ?_ | refine blk_alloc ?_ _)); refine blk_put (cs := #[.int .i64 0, .string (⟨#[]⟩ : ByteArray), .int .i64 0, .bool false, .bool false, .bool false]) ?_ 0 _ rfl; (with_reducible repeat (first | refine blk_drewN ?_ _ | refine blk_drew ?_ | refine blk_alloc ?_ _)); exact BK174.out⟩, ⟨by repeat (first | (with_reducible first | exact HB.out | apply bA | apply bN | apply bD | refine below_set ?_ GE173.out | refine below_set ?_ GE174.out) | exact HB.out)⟩⟩
    rw [if_pos c16] at H
    have c16b0 : (((rd_T63 l1 x20_1).f0) == 2) = true := beq_iff_eq.mpr c16
    have c16b1 : (((rd_T63 l1 x20_1).f0) != 2) = false := bne_eq_false_iff_eq.mpr c16
    clear c16
    (first | rw [c16b0] | (simp only [i64_w, i32_w]; rw [c16b0]) | skip)
    have H' := aS H
    clear H
    go_wp2
    go_meet
    case rel => exact ⟨_, ((((rd_T63 l1 x20_1).f0) == 2)), (by first | rfl | (simp; done) | (simp [*]; done)), H', ⟨by have := HK1.out; first | omega | exact Nat.le_refl _⟩, ⟨by exact rel <| Kd.R_mono (Kd.R_far (p := ⟨gb174, 5, none⟩) (Kd.R_far (p := ⟨gb174, 4, none⟩) (Kd.R_far (p := ⟨gb174, 3, none⟩) (Kd.R_far (p := ⟨gb174, 2, none⟩) (Kd.R_far (p := ⟨gb174, 1, none⟩) (Kd.R_far (p := ⟨gb174, 0, none⟩) (Kd.R_mono HO_7.out (fun k_ hk => (⟨hk, hk.2⟩ : _ ∧ k_ ≠ gb174))) (fun _ hk => hk.2) (.int .i64 ((rd_T63 l1 x20_1).f0))) (fun _ hk => hk.2) (.string (⟨#[]⟩ : ByteArray))) (fun _ hk => hk.2) (.int .i64 0)) (fun _ hk => hk.2) (.bool false)) (fun _ hk => hk.2) (.bool false)) (fun _ hk => hk.2) (.bool false)) (fun _ hk => ⟨hk.1.1.2, hk.1.2⟩)⟩, ⟨by (with_reducible repeat (first | refine blk_drewN ?_ _ | refine blk_drew ?_ | refine blk_alloc ?_ _)); refine blk_far ?_ NB173_174.out _; (with_reducible repeat (first | refine blk_drewN ?_ _ | refine blk_drew ?_ | refine blk_alloc ?_ _)); refine blk_far ?_ NB173_174.out _; (with_reducible repeat (first | refine blk_drewN ?_ _ | refine blk_drew ?_ | refine blk_alloc ?_ _)); refine blk_far ?_ NB173_174.out _; (with_reducible repeat (first | refine blk_drewN ?_ _ | refine blk_drew ?_ | refine blk_alloc ?_ _)); refine blk_far ?_ NB173_174.out _; (with_reducible repeat (first | refine blk_drewN ?_ _ | refine blk_drew ?_ | refine blk_alloc ?_ _)); refine blk_far ?_ NB173_174.out _; (with_reducible repeat (first | refine blk_drewN ?_ _ | refine blk_drew ?_ | refine blk_alloc ?_ _)); refine blk_far ?_ NB173_174.out _; (with_reducible repeat (first | refine blk_drewN ?_ _ | refine blk_drew ?_ | refine blk_alloc ?_ _)); exact BK173.out⟩, ⟨by (with_reducible repeat (first | refine blk_drewN ?_ _ | refine blk_drew ?_ | refine blk_alloc ?_ _)); refine blk_put (cs := #[.int .i64 ((rd_T63 l1 x20_1).f0), .string (⟨#[]⟩ : ByteArray), .int .i64 0, .bool false, .bool false, .bool false]) ?_ 5 _ rfl; (with_reducible repeat (first | refine blk_drewN ?_ _ | refine blk_drew ?_ | refine blk_alloc ?_ _)); refine blk_put (cs := #[.int .i64 ((rd_T63 l1 x20_1).f0), .string (⟨#[]⟩ : ByteArray), .int .i64 0, .bool false, .bool false, .bool false]) ?_ 4 _ rfl; (with_reducible repeat (first | refine blk_drewN ?_ _ | refine blk_drew ?_ | refine blk_alloc ?_ _)); refine blk_put (cs := #[.int .i64 ((rd_T63 l1 x20_1).f0), .string (⟨#[]⟩ : ByteArray), .int .i64 0, .bool false, .bool false, .bool false]) ?_ 3 _ rfl; (with_reducible repeat (first | refine blk_drewN ?_ _ | refine blk_drew ?_ | refine blk_alloc ?_ _)); refine blk_put (cs := #[.int .i64 ((rd_T63 l1 x20_1).f0), .string (⟨#[]⟩ : ByteArray), .int .i64 0, .bool false, .bool false, .bool false]) ?_ 2 _ rfl; (with_reducible repeat (first | refine blk_drewN ?_ _ | refine blk_drew ?_ | refine blk_alloc ?_ _)); refine blk_put (cs := #[.int .i64 ((rd_T63 l1 x20_1).f0), .string (⟨#[]⟩ : ByteArray), .int .i64 0, .bool false, .bool false, .bool false]) ?_ 1 _ rfl; (with_reducible repeat (first | refine blk_drewN ?_ _ | refine blk_drew ?_ | refine blk_alloc ?_ _)); refine blk_put (cs := #[.int .i64 0, .string (⟨#[]⟩ : ByteArray), .int .i64 0, .bool false, .bool false, .bool false]) ?_ 0 _ rfl; (with_reducible repeat (first | refine blk_drewN ?_ _ | refine blk_drew ?_ | refine blk_alloc ?_ _)); exact BK174.out⟩, ⟨by repeat (first | (with_reducible first | exact HB.out | apply bA | apply bN | apply bD | refine below_set ?_ GE173.out | refine below_set ?_ GE174.out) | exact HB.out)⟩⟩
   clear HC9
   try clear c1
   try clear p1
   try clear q1
   try clear hx1
   try clear c2
   try clear p2
   try clear c3
   try clear c4
   try clear c4b0
   try clear c4b1
   try clear c6
   try clear c6b0
   try clear c7
   try clear c7b0
   try clear c8
   try clear c8b0
   try clear c13
   try clear c16
   try clear c16b0
   try clear c16b1
   try clear hcz11_0
   try clear hcz11_1
   try clear hcz11_2
   try clear hcz11_3
   try clear hcz11_4
   try clear hcz11_5
   try clear hcz14_0
   try clear hcz14_1
   try clear hcz14_2
   try clear hcz14_3
   try clear hcz14_4
   try clear hcz14_5
   try clear hcz15_0
   try clear hcz15_1
   try clear hcz15_2
   try clear hcz15_3
   try clear hcz15_4
   try clear hcz15_5
   try clear hfz11_0
   try clear hfz11_1
   try clear hfz11_2
   try clear hfz11_3
   try clear hfz11_4
   try clear hfz11_5
   try clear hfz14_0
   try clear hfz14_1
   try clear hfz14_2
   try clear hfz14_3
   try clear hfz14_4
   try clear hfz14_5
   try clear hfz15_0
   try clear hfz15_1
   try clear hfz15_2
   try clear hfz15_3
   try clear hfz15_4
   try clear hfz15_5
   try clear hx172_0
   try clear hx172_1
   try clear hx172_2
   try clear hx172_3
   try clear hx172_4
   try clear hx172_5
   try clear p172
   try clear p2
   try clear q172
   obtain ⟨kq, x29_8, rfl, HA, HJ8, HO_7, BK173, BK174, HB⟩ := hcut
   cases kq with
   | zero => exact absurd HA.out (by simp [compare_Invert.j1])
   | succ kj8 =>
    have H := HA.out
    clear HA
    simp only [compare_Invert.j1] at H
    by_cases c17 : x29_8 = true
    ·subst c17
     have H1 : (if 0 ≤ x8_1 then (if x8_1 < (l0.length : Int) then (if x7_1.length < 3518437208883 then ((some (x7_1 ++ [(⟨((rd_T63 l1 x20_1).f0), (⟨(rd_T50 l0 x8_1).f0, (rd_T50 l0 x8_1).f1, (rd_T50 l0 x8_1).f2, (rd_T50 l0 x8_1).f3, (rd_T50 l0 x8_1).f4⟩ : S50)⟩ : S63)] : List (S63))).bind fun y176 => (if ((rd_T63 l1 x20_1).f0) = 4 then (compare_Invert.l0 kj8 l0 y176 x8_1 l1 (l1.length : Int) (wrap64 (x20_1 + 1))) else (compare_Invert.l0 kj8 l0 y176 (wrap64 (x8_1 + 1)) l1 (l1.length : Int) (wrap64 (x20_1 + 1))))) else (none)) else (none)) else (none)) = some (r1, r2) := by rw [if_pos rfl] at H; exact H
     clear H
     have H := H1
     clear H1
     by_cases c18 : 0 ≤ x8_1
     rotate_left
     ·rw [if_neg c18] at H
      exact absurd H (by simp)
     rw [if_pos c18] at H
     have c18b0 : decide (0 ≤ x8_1) = true := decide_eq_true c18
     clear c18
     by_cases c19 : x8_1 < (l0.length : Int)
     rotate_left
     ·rw [if_neg c19] at H
      exact absurd H (by simp)
     rw [if_pos c19] at H
     have c19b0 : decide (x8_1 < (l0.length : Int)) = true := decide_eq_true c19
     clear c19
     by_cases c20 : x7_1.length < 3518437208883
     rotate_left
     ·rw [if_neg c20] at H
      exact absurd H (by simp)
     rw [if_pos c20] at H
     have LMc20 := aS c20
     clear c20
     obtain ⟨y176, hy176⟩ : ∃ y_ : List (S63), y_ = (x7_1 ++ [(⟨((rd_T63 l1 x20_1).f0), (⟨(rd_T50 l0 x8_1).f0, (rd_T50 l0 x8_1).f1, (rd_T50 l0 x8_1).f2, (rd_T50 l0 x8_1).f3, (rd_T50 l0 x8_1).f4⟩ : S50)⟩ : S63)]) := ⟨_, rfl⟩
     replace H : (if ((rd_T63 l1 x20_1).f0) = 4 then (compare_Invert.l0 kj8 l0 y176 x8_1 l1 (l1.length : Int) (wrap64 (x20_1 + 1))) else (compare_Invert.l0 kj8 l0 y176 (wrap64 (x8_1 + 1)) l1 (l1.length : Int) (wrap64 (x20_1 + 1)))) = some (r1, r2) := by first | (rw [hy176]; with_reducible exact H) | (have H2_ := (Option.bind_some _ _).symm.trans H; rw [hy176]; with_reducible exact H2_) | (have H2_ := (Option.bind_some _ _).symm.trans H; with_reducible exact H2_) | with_reducible exact H | (rw [hy176]; exact H) | exact H
     have Ny176 := aS hy176
     clear hy176
     by_cases c21 : ((rd_T63 l1 x20_1).f0) = 4
     rotate_left
     ·rw [if_neg c21] at H
      have c21b0 : (((rd_T63 l1 x20_1).f0) == 4) = false := beq_eq_false_iff_ne.mpr c21
      have c21b1 : (((rd_T63 l1 x20_1).f0) != 4) = true := bne_iff_ne.mpr c21
      have H' := aS H
      clear H
      have p175 : 0 ≤ (x8_1 : Int) := of_decide_eq_true (by first | (with_reducible assumption) | assumption)
      have q175 : x8_1 < (l0.length : Int) := of_decide_eq_true (by first | (with_reducible assumption) | assumption)
      obtain ⟨ad175, e175, hx175_0, hx175_1, hx175_2, hx175_3, hx175_4⟩ := at_T50 HR0.out x8_1 p175 q175
      cases e175
      replace hx175_0 := hup HB.out hx175_0
      replace hx175_1 := hup HB.out hx175_1
      replace hx175_2 := hup HB.out hx175_2
      replace hx175_3 := hup HB.out hx175_3
      replace hx175_4 := hup HB.out hx175_4
      replace p175 := eq_true p175
      replace q175 := eq_true q175
      have hnb26 := NB174_173.out
      have hnc26 := NB173_174.out
      have hcz27_0 : wc.cell? ⟨gb174, 0, none⟩ = some (.int .i64 ((rd_T63 l1 x20_1).f0)) := (blk_cell BK174.out 0).trans rfl
      have hcz27_1 : wc.cell? ⟨gb174, 1, none⟩ = some (.string (⟨#[]⟩ : ByteArray)) := (blk_cell BK174.out 1).trans rfl
      have hcz27_2 : wc.cell? ⟨gb174, 2, none⟩ = some (.int .i64 0) := (blk_cell BK174.out 2).trans rfl
      have hcz27_3 : wc.cell? ⟨gb174, 3, none⟩ = some (.bool false) := (blk_cell BK174.out 3).trans rfl
      have hcz27_4 : wc.cell? ⟨gb174, 4, none⟩ = some (.bool false) := (blk_cell BK174.out 4).trans rfl
      have hcz27_5 : wc.cell? ⟨gb174, 5, none⟩ = some (.bool false) := (blk_cell BK174.out 5).trans rfl
      have hfz27_0 := blk_frozen BK174.out 0
      have hfz27_1 := blk_frozen BK174.out 1
      have hfz27_2 := blk_frozen BK174.out 2
      have hfz27_3 := blk_frozen BK174.out 3
      have hfz27_4 := blk_frozen BK174.out 4
      have hfz27_5 := blk_frozen BK174.out 5
      go_wp2_with (first | ((with_reducible refine gate_builtin (b := .append) (xs := #[.tmp 47, .tmp 49]) rfl ?_); at_builtin; refine Kd.R_append k63 (w0 := w) w.heap.size rfl (.tmp 47) (.tmp 49) 28 63 (.agg #[(.int .i64 0), (.string ⟨#[]⟩), (.int .i64 0), (.bool false), (.bool false), (.bool false)]) 40 rfl Try.underlying28 info63 rfl (by decide) (by omega) u7 x7_1 (⟨((rd_T63 l1 x20_1).f0), (⟨(rd_T50 l0 x8_1).f0, (rd_T50 l0 x8_1).f1, (rd_T50 l0 x8_1).f2, (rd_T50 l0 x8_1).f3, (rd_T50 l0 x8_1).f4⟩ : S50)⟩ : S63) [.int .i64 ((rd_T63 l1 x20_1).f0), .string ((rd_T50 l0 x8_1).f0), .int .i64 ((rd_T50 l0 x8_1).f1), .bool ((rd_T50 l0 x8_1).f2), .bool ((rd_T50 l0 x8_1).f3), .bool ((rd_T50 l0 x8_1).f4)] (fun k_ => k_ ≠ gb173 ∧ k_ ≠ gb174) (fun _ => False) rfl (by first | (go_simp; done) | (go_simp; rfl)) ?aP (fun _ hk => hk.elim) ?aF ?aO ?aB ?aS ?aL ?_; (case aP => exact k63_mkM _ _ _ (⟨((rd_T63 l1 x20_1).f0), (⟨(rd_T50 l0 x8_1).f0, (rd_T50 l0 x8_1).f1, (rd_T50 l0 x8_1).f2, (rd_T50 l0 x8_1).f3, (rd_T50 l0 x8_1).f4⟩ : S50)⟩ : S63)); (case aB => exact (by repeat (first | (with_reducible first | exact HB.out | apply bA | apply bN | apply bD | refine below_set ?_ GE173.out | refine below_set ?_ GE174.out) | exact HB.out))); (case aF => exact (fun k_ hk => ⟨Kd.freshB (g := gb173) (o := .cells #[.int .i64 ((rd_T63 l1 x20_1).f0), .string ((rd_T63 l1 x20_1).f1.f0), .int .i64 ((rd_T63 l1 x20_1).f1.f1), .bool ((rd_T63 l1 x20_1).f1.f2), .bool ((rd_T63 l1 x20_1).f1.f3), .bool ((rd_T63 l1 x20_1).f1.f4)] 63 (0, 0)) (by (with_reducible repeat (first | refine blk_drewN ?_ _ | refine blk_drew ?_ | refine blk_alloc ?_ _)); refine blk_far ?_ NB173_174.out _; (with_reducible repeat (first | refine blk_drewN ?_ _ | refine blk_drew ?_ | refine blk_alloc ?_ _)); refine blk_far ?_ NB173_174.out _; (with_reducible repeat (first | refine blk_drewN ?_ _ | refine blk_drew ?_ | refine blk_alloc ?_ _)); refine blk_far ?_ NB173_174.out _; (with_reducible repeat (first | refine blk_drewN ?_ _ | refine blk_drew ?_ | refine blk_alloc ?_ _)); refine blk_far ?_ NB173_174.out _; (with_reducible repeat (first | refine blk_drewN ?_ _ | refine blk_drew ?_ | refine blk_alloc ?_ _)); refine blk_far ?_ NB173_174.out _; (with_reducible repeat (first | refine blk_drewN ?_ _ | refine blk_drew ?_ | refine blk_alloc ?_ _)); exact BK173.out) k_ hk, Kd.freshB (g := gb174) (o := .cells #[.int .i64 ((rd_T63 l1 x20_1).f0), .string ((rd_T50 l0 x8_1).f0), .int .i64 ((rd_T50 l0 x8_1).f1), .bool ((rd_T50 l0 x8_1).f2), .bool ((rd_T50 l0 x8_1).f3), .bool ((rd_T50 l0 x8_1).f4)] 63 (0, 0)) (by (with_reducible repeat (first | refine blk_drewN ?_ _ | refine blk_drew ?_ | refine blk_alloc ?_ _)); refine blk_put (cs := #[.int .i64 ((rd_T63 l1 x20_1).f0), .string ((rd_T50 l0 x8_1).f0), .int .i64 ((rd_T50 l0 x8_1).f1), .bool ((rd_T50 l0 x8_1).f2), .bool ((rd_T50 l0 x8_1).f3), .bool false]) ?_ 5 _ rfl; (with_reducible repeat (first | refine blk_drewN ?_ _ | refine blk_drew ?_ | refine blk_alloc ?_ _)); refine blk_put (cs := #[.int .i64 ((rd_T63 l1 x20_1).f0), .string ((rd_T50 l0 x8_1).f0), .int .i64 ((rd_T50 l0 x8_1).f1), .bool ((rd_T50 l0 x8_1).f2), .bool false, .bool false]) ?_ 4 _ rfl; (with_reducible repeat (first | refine blk_drewN ?_ _ | refine blk_drew ?_ | refine blk_alloc ?_ _)); refine blk_put (cs := #[.int .i64 ((rd_T63 l1 x20_1).f0), .string ((rd_T50 l0 x8_1).f0), .int .i64 ((rd_T50 l0 x8_1).f1), .bool false, .bool false, .bool false]) ?_ 3 _ rfl; (with_reducible repeat (first | refine blk_drewN ?_ _ | refine blk_drew ?_ | refine blk_alloc ?_ _)); refine blk_put (cs := #[.int .i64 ((rd_T63 l1 x20_1).f0), .string ((rd_T50 l0 x8_1).f0), .int .i64 0, .bool false, .bool false, .bool false]) ?_ 2 _ rfl; (with_reducible repeat (first | refine blk_drewN ?_ _ | refine blk_drew ?_ | refine blk_alloc ?_ _)); refine blk_put (cs := #[.int .i64 ((rd_T63 l1 x20_1).f0), .string (⟨#[]⟩ : ByteArray), .int .i64 0, .bool false, .bool false, .bool false]) ?_ 1 _ rfl; (with_reducible repeat (first | refine blk_drewN ?_ _ | refine blk_drew ?_ | refine blk_alloc ?_ _)); exact BK174.out) k_ hk⟩)); (case aO => exact (by exact rel <| Kd.R_mono (Kd.R_far (p := ⟨gb174, 5, none⟩) (Kd.R_far (p := ⟨gb174, 4, none⟩) (Kd.R_far (p := ⟨gb174, 3, none⟩) (Kd.R_far (p := ⟨gb174, 2, none⟩) (Kd.R_far (p := ⟨gb174, 1, none⟩) (Kd.R_mono HO_7.out (fun k_ hk => (⟨hk, hk.2⟩ : _ ∧ k_ ≠ gb174))) (fun _ hk => hk.2) (.string ((rd_T50 l0 x8_1).f0))) (fun _ hk => hk.2) (.int .i64 ((rd_T50 l0 x8_1).f1))) (fun _ hk => hk.2) (.bool ((rd_T50 l0 x8_1).f2))) (fun _ hk => hk.2) (.bool ((rd_T50 l0 x8_1).f3))) (fun _ hk => hk.2) (.bool ((rd_T50 l0 x8_1).f4))) (fun _ hk => ⟨hk.1.1, hk.1.2⟩))); (case aS => exact (below_size (by repeat (first | (with_reducible first | exact HB.out | apply bA | apply bN | apply bD | refine below_set ?_ GE173.out | refine below_set ?_ GE174.out) | exact HB.out)))); (case aL => have := LMc20.out; omega); intro v177 w28 ho hb hg hat; rw [← Ny176.out] at ho; have n0_ := aS (blk_grown (g := gb173) (o := .cells #[.int .i64 ((rd_T63 l1 x20_1).f0), .string ((rd_T63 l1 x20_1).f1.f0), .int .i64 ((rd_T63 l1 x20_1).f1.f1), .bool ((rd_T63 l1 x20_1).f1.f2), .bool ((rd_T63 l1 x20_1).f1.f3), .bool ((rd_T63 l1 x20_1).f1.f4)] 63 (0, 0)) (by (with_reducible repeat (first | refine blk_drewN ?_ _ | refine blk_drew ?_ | refine blk_alloc ?_ _)); refine blk_far ?_ NB173_174.out _; (with_reducible repeat (first | refine blk_drewN ?_ _ | refine blk_drew ?_ | refine blk_alloc ?_ _)); refine blk_far ?_ NB173_174.out _; (with_reducible repeat (first | refine blk_drewN ?_ _ | refine blk_drew ?_ | refine blk_alloc ?_ _)); refine blk_far ?_ NB173_174.out _; (with_reducible repeat (first | refine blk_drewN ?_ _ | refine blk_drew ?_ | refine blk_alloc ?_ _)); refine blk_far ?_ NB173_174.out _; (with_reducible repeat (first | refine blk_drewN ?_ _ | refine blk_drew ?_ | refine blk_alloc ?_ _)); refine blk_far ?_ NB173_174.out _; (with_reducible repeat (first | refine blk_drewN ?_ _ | refine blk_drew ?_ | refine blk_alloc ?_ _)); exact BK173.out) hg (Kd.R_away HO_7.out (fun _ hk => hk.1))); have n1_ := aS (blk_grown (g := gb174) (o := .cells #[.int .i64 ((rd_T63 l1 x20_1).f0), .string ((rd_T50 l0 x8_1).f0), .int .i64 ((rd_T50 l0 x8_1).f1), .bool ((rd_T50 l0 x8_1).f2), .bool ((rd_T50 l0 x8_1).f3), .bool ((rd_T50 l0 x8_1).f4)] 63 (0, 0)) (by (with_reducible repeat (first | refine blk_drewN ?_ _ | refine blk_drew ?_ | refine blk_alloc ?_ _)); refine blk_put (cs := #[.int .i64 ((rd_T63 l1 x20_1).f0), .string ((rd_T50 l0 x8_1).f0), .int .i64 ((rd_T50 l0 x8_1).f1), .bool ((rd_T50 l0 x8_1).f2), .bool ((rd_T50 l0 x8_1).f3), .bool false]) ?_ 5 _ rfl; (with_reducible repeat (first | refine blk_drewN ?_ _ | refine blk_drew ?_ | refine blk_alloc ?_ _)); refine blk_put (cs := #[.int .i64 ((rd_T63 l1 x20_1).f0), .string ((rd_T50 l0 x8_1).f0), .int .i64 ((rd_T50 l0 x8_1).f1), .bool ((rd_T50 l0 x8_1).f2), .bool false, .bool false]) ?_ 4 _ rfl; (with_reducible repeat (first | refine blk_drewN ?_ _ | refine blk_drew ?_ | refine blk_alloc ?_ _)); refine blk_put (cs := #[.int .i64 ((rd_T63 l1 x20_1).f0), .string ((rd_T50 l0 x8_1).f0), .int .i64 ((rd_T50 l0 x8_1).f1), .bool false, .bool false, .bool false]) ?_ 3 _ rfl; (with_reducible repeat (first | refine blk_drewN ?_ _ | refine blk_drew ?_ | refine blk_alloc ?_ _)); refine blk_put (cs := #[.int .i64 ((rd_T63 l1 x20_1).f0), .string ((rd_T50 l0 x8_1).f0), .int .i64 0, .bool false, .bool false, .bool false]) ?_ 2 _ rfl; (with_reducible repeat (first | refine blk_drewN ?_ _ | refine blk_drew ?_ | refine blk_alloc ?_ _)); refine blk_put (cs := #[.int .i64 ((rd_T63 l1 x20_1).f0), .string (⟨#[]⟩ : ByteArray), .int .i64 0, .bool false, .bool false, .bool false]) ?_ 1 _ rfl; (with_reducible repeat (first | refine blk_drewN ?_ _ | refine blk_drew ?_ | refine blk_alloc ?_ _)); exact BK174.out) hg (Kd.R_away HO_7.out (fun _ hk => hk.2))); have n2_ := aS (hb); have n3_ := aS (ho); clear BK173; clear BK174; clear HB; clear HO_7; have BK173 := n0_; have BK174 := n1_; have HB := n2_; have HO178 := n3_; clear n0_ n1_ n2_ n3_; clear ho hb hg hat; have hcz29_0 : w28.cell? ⟨gb173, 0, none⟩ = some (.int .i64 ((rd_T63 l1 x20_1).f0)) := (blk_cell BK173.out 0).trans rfl; have hcz29_1 : w28.cell? ⟨gb173, 1, none⟩ = some (.string ((rd_T63 l1 x20_1).f1.f0)) := (blk_cell BK173.out 1).trans rfl; have hcz29_2 : w28.cell? ⟨gb173, 2, none⟩ = some (.int .i64 ((rd_T63 l1 x20_1).f1.f1)) := (blk_cell BK173.out 2).trans rfl; have hcz29_3 : w28.cell? ⟨gb173, 3, none⟩ = some (.bool ((rd_T63 l1 x20_1).f1.f2)) := (blk_cell BK173.out 3).trans rfl; have hcz29_4 : w28.cell? ⟨gb173, 4, none⟩ = some (.bool ((rd_T63 l1 x20_1).f1.f3)) := (blk_cell BK173.out 4).trans rfl; have hcz29_5 : w28.cell? ⟨gb173, 5, none⟩ = some (.bool ((rd_T63 l1 x20_1).f1.f4)) := (blk_cell BK173.out 5).trans rfl; have hfz29_0 := blk_frozen BK173.out 0; have hfz29_1 := blk_frozen BK173.out 1; have hfz29_2 := blk_frozen BK173.out 2; have hfz29_3 := blk_frozen BK173.out 3; have hfz29_4 := blk_frozen BK173.out 4; have hfz29_5 := blk_frozen BK173.out 5))
      go_roundg kj8
      case measure => have := HK1.out; have := HJ8.out; omega
      case rel => exact ⟨(y176), (wrap64 (x8_1 + 1)), (wrap64 (x20_1 + 1)), (by first | rfl | (simp; done) | (simp [*]; done)), (by first | rfl | (simp; done) | (simp [*]; done)), H', ⟨by have := HK1.out; have := HJ8.out; omega⟩, ⟨by exact rel <| Kd.R_mono HO178.out (fun _ hk => trivial)⟩, ⟨by repeat (first | (with_reducible first | exact HB.out | apply bA | apply bN | apply bD | refine below_set ?_ GE173.out | refine below_set ?_ GE174.out) | exact HB.out)⟩⟩
     rw [if_pos c21] at H
     have c21b0 : (((rd_T63 l1 x20_1).f0) == 4) = true := beq_iff_eq.mpr c21
     have c21b1 : (((rd_T63 l1 x20_1).f0) != 4) = false := bne_eq_false_iff_eq.mpr c21
     clear c21
     have H' := aS H
     clear H
     have p175 : 0 ≤ (x8_1 : Int) := of_decide_eq_true (by first | (with_reducible assumption) | assumption)
     have q175 : x8_1 < (l0.length : Int) := of_decide_eq_true (by first | (with_reducible assumption) | assumption)
     obtain ⟨ad175, e175, hx175_0, hx175_1, hx175_2, hx175_3, hx175_4⟩ := at_T50 HR0.out x8_1 p175 q175
     cases e175
     replace hx175_0 := hup HB.out hx175_0
     replace hx175_1 := hup HB.out hx175_1
     replace hx175_2 := hup HB.out hx175_2
     replace hx175_3 := hup HB.out hx175_3
     replace hx175_4 := hup HB.out hx175_4
     replace p175 := eq_true p175
     replace q175 := eq_true q175
     have hnb22 := NB174_173.out
     have hnc22 := NB173_174.out
     have hcz23_0 : wc.cell? ⟨gb174, 0, none⟩ = some (.int .i64 ((rd_T63 l1 x20_1).f0)) := (blk_cell BK174.out 0).trans rfl
     have hcz23_1 : wc.cell? ⟨gb174, 1, none⟩ = some (.string (⟨#[]⟩ : ByteArray)) := (blk_cell BK174.out 1).trans rfl
     have hcz23_2 : wc.cell? ⟨gb174, 2, none⟩ = some (.int .i64 0) := (blk_cell BK174.out 2).trans rfl
     have hcz23_3 : wc.cell? ⟨gb174, 3, none⟩ = some (.bool false) := (blk_cell BK174.out 3).trans rfl
     have hcz23_4 : wc.cell? ⟨gb174, 4, none⟩ = some (.bool false) := (blk_cell BK174.out 4).trans rfl
     have hcz23_5 : wc.cell? ⟨gb174, 5, none⟩ = some (.bool false) := (blk_cell BK174.out 5).trans rfl
     have hfz23_0 := blk_frozen BK174.out 0
     have hfz23_1 := blk_frozen BK174.out 1
     have hfz23_2 := blk_frozen BK174.out 2
     have hfz23_3 := blk_frozen BK174.out 3
     have hfz23_4 := blk_frozen BK174.out 4
     have hfz23_5 := blk_frozen BK174.out 5
     go_wp2_with (first | ((with_reducible refine gate_builtin (b := .append) (xs := #[.tmp 47, .tmp 49]) rfl ?_); at_builtin; refine Kd.R_append k63 (w0 := w) w.heap.size rfl (.tmp 47) (.tmp 49) 28 63 (.agg #[(.int .i64 0), (.string ⟨#[]⟩), (.int .i64 0), (.bool false), (.bool false), (.bool false)]) 40 rfl Try.underlying28 info63 rfl (by decide) (by omega) u7 x7_1 (⟨((rd_T63 l1 x20_1).f0), (⟨(rd_T50 l0 x8_1).f0, (rd_T50 l0 x8_1).f1, (rd_T50 l0 x8_1).f2, (rd_T50 l0 x8_1).f3, (rd_T50 l0 x8_1).f4⟩ : S50)⟩ : S63) [.int .i64 ((rd_T63 l1 x20_1).f0), .string ((rd_T50 l0 x8_1).f0), .int .i64 ((rd_T50 l0 x8_1).f1), .bool ((rd_T50 l0 x8_1).f2), .bool ((rd_T50 l0 x8_1).f3), .bool ((rd_T50 l0 x8_1).f4)] (fun k_ => k_ ≠ gb173 ∧ k_ ≠ gb174) (fun _ => False) rfl (by first | (go_simp; done) | (go_simp; rfl)) ?aP (fun _ hk => hk.elim) ?aF ?aO ?aB ?aS ?aL ?_; (case aP => exact k63_mkM _ _ _ (⟨((rd_T63 l1 x20_1).f0), (⟨(rd_T50 l0 x8_1).f0, (rd_T50 l0 x8_1).f1, (rd_T50 l0 x8_1).f2, (rd_T50 l0 x8_1).f3, (rd_T50 l0 x8_1).f4⟩ : S50)⟩ : S63)); (case aB => exact (by repeat (first | (with_reducible first | exact HB.out | apply bA | apply bN | apply bD | refine below_set ?_ GE173.out | refine below_set ?_ GE174.out) | exact HB.out))); (case aF => exact (fun k_ hk => ⟨Kd.freshB (g := gb173) (o := .cells #[.int .i64 ((rd_T63 l1 x20_1).f0), .string ((rd_T63 l1 x20_1).f1.f0), .int .i64 ((rd_T63 l1 x20_1).f1.f1), .bool ((rd_T63 l1 x20_1).f1.f2), .bool ((rd_T63 l1 x20_1).f1.f3), .bool ((rd_T63 l1 x20_1).f1.f4)] 63 (0, 0)) (by (with_reducible repeat (first | refine blk_drewN ?_ _ | refine blk_drew ?_ | refine blk_alloc ?_ _)); refine blk_far ?_ NB173_174.out _; (with_reducible repeat (first | refine blk_drewN ?_ _ | refine blk_drew ?_ | refine blk_alloc ?_ _)); refine blk_far ?_ NB173_174.out _; (with_reducible repeat (first | refine blk_drewN ?_ _ | refine blk_drew ?_ | refine blk_alloc ?_ _)); refine blk_far ?_ NB173_174.out _; (with_reducible repeat (first | refine blk_drewN ?_ _ | refine blk_drew ?_ | refine blk_alloc ?_ _)); refine blk_far ?_ NB173_174.out _; (with_reducible repeat (first | refine blk_drewN ?_ _ | refine blk_drew ?_ | refine blk_alloc ?_ _)); refine blk_far ?_ NB173_174.out _; (with_reducible repeat (first | refine blk_drewN ?_ _ | refine blk_drew ?_ | refine blk_alloc ?_ _)); exact BK173.out) k_ hk, Kd.freshB (g := gb174) (o := .cells #[.int .i64 ((rd_T63 l1 x20_1).f0), .string ((rd_T50 l0 x8_1).f0), .int .i64 ((rd_T50 l0 x8_1).f1), .bool ((rd_T50 l0 x8_1).f2), .bool ((rd_T50 l0 x8_1).f3), .bool ((rd_T50 l0 x8_1).f4)] 63 (0, 0)) (by (with_reducible repeat (first | refine blk_drewN ?_ _ | refine blk_drew ?_ | refine blk_alloc ?_ _)); refine blk_put (cs := #[.int .i64 ((rd_T63 l1 x20_1).f0), .string ((rd_T50 l0 x8_1).f0), .int .i64 ((rd_T50 l0 x8_1).f1), .bool ((rd_T50 l0 x8_1).f2), .bool ((rd_T50 l0 x8_1).f3), .bool false]) ?_ 5 _ rfl; (with_reducible repeat (first | refine blk_drewN ?_ _ | refine blk_drew ?_ | refine blk_alloc ?_ _)); refine blk_put (cs := #[.int .i64 ((rd_T63 l1 x20_1).f0), .string ((rd_T50 l0 x8_1).f0), .int .i64 ((rd_T50 l0 x8_1).f1), .bool ((rd_T50 l0 x8_1).f2), .bool false, .bool false]) ?_ 4 _ rfl; (with_reducible repeat (first | refine blk_drewN ?_ _ | refine blk_drew ?_ | refine blk_alloc ?_ _)); refine blk_put (cs := #[.int .i64 ((rd_T63 l1 x20_1).f0), .string ((rd_T50 l0 x8_1).f0), .int .i64 ((rd_T50 l0 x8_1).f1), .bool false, .bool false, .bool false]) ?_ 3 _ rfl; (with_reducible repeat (first | refine blk_drewN ?_ _ | refine blk_drew ?_ | refine blk_alloc ?_ _)); refine blk_put (cs := #[.int .i64 ((rd_T63 l1 x20_1).f0), .string ((rd_T50 l0 x8_1).f0), .int .i64 0, .bool false, .bool false, .bool false]) ?_ 2 _ rfl; (with_reducible repeat (first | refine blk_drewN ?_ _ | refine blk_drew ?_ | refine blk_alloc ?_ _)); refine blk_put (cs := #[.int .i64 ((rd_T63 l1 x20_1).f0), .string (⟨#[]⟩ : ByteArray), .int .i64 0, .bool false, .bool false, .bool false]) ?_ 1 _ rfl; (with_reducible repeat (first | refine blk_drewN ?_ _ | refine blk_drew ?_ | refine blk_alloc ?_ _)); exact BK174.out) k_ hk⟩)); (case aO => exact (by exact rel <| Kd.R_mono (Kd.R_far (p := ⟨gb174, 5, none⟩) (Kd.R_far (p := ⟨gb174, 4, none⟩) (Kd.R_far (p := ⟨gb174, 3, none⟩) (Kd.R_far (p := ⟨gb174, 2, none⟩) (Kd.R_far (p := ⟨gb174, 1, none⟩) (Kd.R_mono HO_7.out (fun k_ hk => (⟨hk, hk.2⟩ : _ ∧ k_ ≠ gb174))) (fun _ hk => hk.2) (.string ((rd_T50 l0 x8_1).f0))) (fun _ hk => hk.2) (.int .i64 ((rd_T50 l0 x8_1).f1))) (fun _ hk => hk.2) (.bool ((rd_T50 l0 x8_1).f2))) (fun _ hk => hk.2) (.bool ((rd_T50 l0 x8_1).f3))) (fun _ hk => hk.2) (.bool ((rd_T50 l0 x8_1).f4))) (fun _ hk => ⟨hk.1.1, hk.1.2⟩))); (case aS => exact (below_size (by repeat (first | (with_reducible first | exact HB.out | apply bA | apply bN | apply bD | refine below_set ?_ GE173.out | refine below_set ?_ GE174.out) | exact HB.out)))); (case aL => have := LMc20.out; omega); intro v177 w24 ho hb hg hat; rw [← Ny176.out] at ho; have n0_ := aS (blk_grown (g := gb173) (o := .cells #[.int .i64 ((rd_T63 l1 x20_1).f0), .string ((rd_T63 l1 x20_1).f1.f0), .int .i64 ((rd_T63 l1 x20_1).f1.f1), .bool ((rd_T63 l1 x20_1).f1.f2), .bool ((rd_T63 l1 x20_1).f1.f3), .bool ((rd_T63 l1 x20_1).f1.f4)] 63 (0, 0)) (by (with_reducible repeat (first | refine blk_drewN ?_ _ | refine blk_drew ?_ | refine blk_alloc ?_ _)); refine blk_far ?_ NB173_174.out _; (with_reducible repeat (first | refine blk_drewN ?_ _ | refine blk_drew ?_ | refine blk_alloc ?_ _)); refine blk_far ?_ NB173_174.out _; (with_reducible repeat (first | refine blk_drewN ?_ _ | refine blk_drew ?_ | refine blk_alloc ?_ _)); refine blk_far ?_ NB173_174.out _; (with_reducible repeat (first | refine blk_drewN ?_ _ | refine blk_drew ?_ | refine blk_alloc ?_ _)); refine blk_far ?_ NB173_174.out _; (with_reducible repeat (first | refine blk_drewN ?_ _ | refine blk_drew ?_ | refine blk_alloc ?_ _)); refine blk_far ?_ NB173_174.out _; (with_reducible repeat (first | refine blk_drewN ?_ _ | refine blk_drew ?_ | refine blk_alloc ?_ _)); exact BK173.out) hg (Kd.R_away HO_7.out (fun _ hk => hk.1))); have n1_ := aS (blk_grown (g := gb174) (o := .cells #[.int .i64 ((rd_T63 l1 x20_1).f0), .string ((rd_T50 l0 x8_1).f0), .int .i64 ((rd_T50 l0 x8_1).f1), .bool ((rd_T50 l0 x8_1).f2), .bool ((rd_T50 l0 x8_1).f3), .bool ((rd_T50 l0 x8_1).f4)] 63 (0, 0)) (by (with_reducible repeat (first | refine blk_drewN ?_ _ | refine blk_drew ?_ | refine blk_alloc ?_ _)); refine blk_put (cs := #[.int .i64 ((rd_T63 l1 x20_1).f0), .string ((rd_T50 l0 x8_1).f0), .int .i64 ((rd_T50 l0 x8_1).f1), .bool ((rd_T50 l0 x8_1).f2), .bool ((rd_T50 l0 x8_1).f3), .bool false]) ?_ 5 _ rfl; (with_reducible repeat (first | refine blk_drewN ?_ _ | refine blk_drew ?_ | refine blk_alloc ?_ _)); refine blk_put (cs := #[.int .i64 ((rd_T63 l1 x20_1).f0), .string ((rd_T50 l0 x8_1).f0), .int .i64 ((rd_T50 l0 x8_1).f1), .bool ((rd_T50 l0 x8_1).f2), .bool false, .bool false]) ?_ 4 _ rfl; (with_reducible repeat (first | refine blk_drewN ?_ _ | refine blk_drew ?_ | refine blk_alloc ?_ _)); refine blk_put (cs := #[.int .i64 ((rd_T63 l1 x20_1).f0), .string ((rd_T50 l0 x8_1).f0), .int .i64 ((rd_T50 l0 x8_1).f1), .bool false, .bool false, .bool false]) ?_ 3 _ rfl; (with_reducible repeat (first | refine blk_drewN ?_ _ | refine blk_drew ?_ | refine blk_alloc ?_ _)); refine blk_put (cs := #[.int .i64 ((rd_T63 l1 x20_1).f0), .string ((rd_T50 l0 x8_1).f0), .int .i64 0, .bool false, .bool false, .bool false]) ?_ 2 _ rfl; (with_reducible repeat (first | refine blk_drewN ?_ _ | refine blk_drew ?_ | refine blk_alloc ?_ _)); refine blk_put (cs := #[.int .i64 ((rd_T63 l1 x20_1).f0), .string (⟨#[]⟩ : ByteArray), .int .i64 0, .bool false, .bool false, .bool false]) ?_ 1 _ rfl; (with_reducible repeat (first | refine blk_drewN ?_ _ | refine blk_drew ?_ | refine blk_alloc ?_ _)); exact BK174.out) hg (Kd.R_away HO_7.out (fun _ hk => hk.2))); have n2_ := aS (hb); have n3_ := aS (ho); clear BK173; clear BK174; clear HB; clear HO_7; have BK173 := n0_; have BK174 := n1_; have HB := n2_; have HO178 := n3_; clear n0_ n1_ n2_ n3_; clear ho hb hg hat; have hcz25_0 : w24.cell? ⟨gb173, 0, none⟩ = some (.int .i64 ((rd_T63 l1 x20_1).f0)) := (blk_cell BK173.out 0).trans rfl; have hcz25_1 : w24.cell? ⟨gb173, 1, none⟩ = some (.string ((rd_T63 l1 x20_1).f1.f0)) := (blk_cell BK173.out 1).trans rfl; have hcz25_2 : w24.cell? ⟨gb173, 2, none⟩ = some (.int .i64 ((rd_T63 l1 x20_1).f1.f1)) := (blk_cell BK173.out 2).trans rfl; have hcz25_3 : w24.cell? ⟨gb173, 3, none⟩ = some (.bool ((rd_T63 l1 x20_1).f1.f2)) := (blk_cell BK173.out 3).trans rfl; have hcz25_4 : w24.cell? ⟨gb173, 4, none⟩ = some (.bool ((rd_T63 l1 x20_1).f1.f3)) := (blk_cell BK173.out 4).trans rfl; have hcz25_5 : w24.cell? ⟨gb173, 5, none⟩ = some (.bool ((rd_T63 l1 x20_1).f1.f4)) := (blk_cell BK173.out 5).trans rfl; have hfz25_0 := blk_frozen BK173.out 0; have hfz25_1 := blk_frozen BK173.out 1; have hfz25_2 := blk_frozen BK173.out 2; have hfz25_3 := blk_frozen BK173.out 3; have hfz25_4 := blk_frozen BK173.out 4; have hfz25_5 := blk_frozen BK173.out 5))
     go_roundg kj8
     case measure => have := HK1.out; have := HJ8.out; omega
     case rel => exact ⟨(y176), (x8_1), (wrap64 (x20_1 + 1)), (by first | rfl | (simp; done) | (simp [*]; done)), (by first | rfl | (simp; done) | (simp [*]; done)), H', ⟨by have := HK1.out; have := HJ8.out; omega⟩, ⟨by exact rel <| Kd.R_mono HO178.out (fun _ hk => trivial)⟩, ⟨by repeat (first | (with_reducible first | exact HB.out | apply bA | apply bN | apply bD | refine below_set ?_ GE173.out | refine below_set ?_ GE174.out) | exact HB.out)⟩⟩
    replace c17 := Bool.eq_false_iff.mpr c17
    subst c17
    have H1 : (if ((rd_T63 l1 x20_1).f0) = 4 then (if x7_1.length < 3518437208883 then ((some (x7_1 ++ [(⟨5, (⟨(⟨#[]⟩ : ByteArray), 0, false, false, false⟩ : S50)⟩ : S63)] : List (S63))).bind fun y179 => (if ((rd_T63 l1 x20_1).f0) = 4 then (compare_Invert.l0 kj8 l0 y179 x8_1 l1 (l1.length : Int) (wrap64 (x20_1 + 1))) else (compare_Invert.l0 kj8 l0 y179 (wrap64 (x8_1 + 1)) l1 (l1.length : Int) (wrap64 (x20_1 + 1))))) else (none)) else (if ((rd_T63 l1 x20_1).f0) = 5 then (if 0 ≤ x8_1 then (if x8_1 < (l0.length : Int) then (if x7_1.length < 3518437208883 then ((some (x7_1 ++ [(⟨4, (⟨(rd_T50 l0 x8_1).f0, (rd_T50 l0 x8_1).f1, (rd_T50 l0 x8_1).f2, (rd_T50 l0 x8_1).f3, (rd_T50 l0 x8_1).f4⟩ : S50)⟩ : S63)] : List (S63))).bind fun y183 => (if ((rd_T63 l1 x20_1).f0) = 4 then (compare_Invert.l0 kj8 l0 y183 x8_1 l1 (l1.length : Int) (wrap64 (x20_1 + 1))) else (compare_Invert.l0 kj8 l0 y183 (wrap64 (x8_1 + 1)) l1 (l1.length : Int) (wrap64 (x20_1 + 1))))) else (none)) else (none)) else (none)) else (if x7_1.length < 3518437208883 then ((some (x7_1 ++ [(⟨((rd_T63 l1 x20_1).f0), (⟨(⟨#[]⟩ : ByteArray), 0, false, false, false⟩ : S50)⟩ : S63)] : List (S63))).bind fun y186 => (if ((rd_T63 l1 x20_1).f0) = 4 then (compare_Invert.l0 kj8 l0 y186 x8_1 l1 (l1.length : Int) (wrap64 (x20_1 + 1))) else (compare_Invert.l0 kj8 l0 y186 (wrap64 (x8_1 + 1)) l1 (l1.length : Int) (wrap64 (x20_1 + 1))))) else (none)))) = some (r1, r2) := by rw [if_neg (show ¬ (false = true) by decide)] at H; exact H
    clear H
    have H := H1
    clear H1
    by_cases c30 : ((rd_T63 l1 x20_1).f0) = 4
    ·rw [if_pos c30] at H
     have c30b0 : (((rd_T63 l1 x20_1).f0) == 4) = true := beq_iff_eq.mpr c30
     have c30b1 : (((rd_T63 l1 x20_1).f0) != 4) = false := bne_eq_false_iff_eq.mpr c30
     clear c30
     by_cases c31 : x7_1.length < 3518437208883
     rotate_left
     ·rw [if_neg c31] at H
      exact absurd H (by simp)
     rw [if_pos c31] at H
     have LMc31 := aS c31
     clear c31
     obtain ⟨y179, hy179⟩ : ∃ y_ : List (S63), y_ = (x7_1 ++ [(⟨5, (⟨(⟨#[]⟩ : ByteArray), 0, false, false, false⟩ : S50)⟩ : S63)]) := ⟨_, rfl⟩
     replace H : (if ((rd_T63 l1 x20_1).f0) = 4 then (compare_Invert.l0 kj8 l0 y179 x8_1 l1 (l1.length : Int) (wrap64 (x20_1 + 1))) else (compare_Invert.l0 kj8 l0 y179 (wrap64 (x8_1 + 1)) l1 (l1.length : Int) (wrap64 (x20_1 + 1)))) = some (r1, r2) := by first | (rw [hy179]; with_reducible exact H) | (have H2_ := (Option.bind_some _ _).symm.trans H; rw [hy179]; with_reducible exact H2_) | (have H2_ := (Option.bind_some _ _).symm.trans H; with_reducible exact H2_) | with_reducible exact H | (rw [hy179]; exact H) | exact H
     have Ny179 := aS hy179
     clear hy179
     by_cases c32 : ((rd_T63 l1 x20_1).f0) = 4
     rotate_left
     ·rw [if_neg c32] at H
      have c32b0 : (((rd_T63 l1 x20_1).f0) == 4) = false := beq_eq_false_iff_ne.mpr c32
      exact absurd (c30b0.symm.trans c32b0) (by decide)
     rw [if_pos c32] at H
     have c32b0 : (((rd_T63 l1 x20_1).f0) == 4) = true := beq_iff_eq.mpr c32
     have c32b1 : (((rd_T63 l1 x20_1).f0) != 4) = false := bne_eq_false_iff_eq.mpr c32
     clear c32
     have H' := aS H
     clear H
     have hnb33 := NB174_173.out
     have hnc33 := NB173_174.out
     have hcz34_0 : wc.cell? ⟨gb174, 0, none⟩ = some (.int .i64 ((rd_T63 l1 x20_1).f0)) := (blk_cell BK174.out 0).trans rfl
     have hcz34_1 : wc.cell? ⟨gb174, 1, none⟩ = some (.string (⟨#[]⟩ : ByteArray)) := (blk_cell BK174.out 1).trans rfl
     have hcz34_2 : wc.cell? ⟨gb174, 2, none⟩ = some (.int .i64 0) := (blk_cell BK174.out 2).trans rfl
     have hcz34_3 : wc.cell? ⟨gb174, 3, none⟩ = some (.bool false) := (blk_cell BK174.out 3).trans rfl
     have hcz34_4 : wc.cell? ⟨gb174, 4, none⟩ = some (.bool false) := (blk_cell BK174.out 4).trans rfl
     have hcz34_5 : wc.cell? ⟨gb174, 5, none⟩ = some (.bool false) := (blk_cell BK174.out 5).trans rfl
     have hfz34_0 := blk_frozen BK174.out 0
     have hfz34_1 := blk_frozen BK174.out 1
     have hfz34_2 := blk_frozen BK174.out 2
     have hfz34_3 := blk_frozen BK174.out 3
     have hfz34_4 := blk_frozen BK174.out 4
     have hfz34_5 := blk_frozen BK174.out 5
     go_wp2_with (first | ((with_reducible refine gate_builtin (b := .append) (xs := #[.tmp 47, .tmp 49]) rfl ?_); at_builtin; refine Kd.R_append k63 (w0 := w) w.heap.size rfl (.tmp 47) (.tmp 49) 28 63 (.agg #[(.int .i64 0), (.string ⟨#[]⟩), (.int .i64 0), (.bool false), (.bool false), (.bool false)]) 40 rfl Try.underlying28 info63 rfl (by decide) (by omega) u7 x7_1 (⟨5, (⟨(⟨#[]⟩ : ByteArray), 0, false, false, false⟩ : S50)⟩ : S63) [.int .i64 5, .string (⟨#[]⟩ : ByteArray), .int .i64 0, .bool false, .bool false, .bool false] (fun k_ => k_ ≠ gb173 ∧ k_ ≠ gb174) (fun _ => False) rfl (by first | (go_simp; done) | (go_simp; rfl)) ?aP (fun _ hk => hk.elim) ?aF ?aO ?aB ?aS ?aL ?_; (case aP => exact k63_mkM _ _ _ (⟨5, (⟨(⟨#[]⟩ : ByteArray), 0, false, false, false⟩ : S50)⟩ : S63)); (case aB => exact (by repeat (first | (with_reducible first | exact HB.out | apply bA | apply bN | apply bD | refine below_set ?_ GE173.out | refine below_set ?_ GE174.out) | exact HB.out))); (case aF => exact (fun k_ hk => ⟨Kd.freshB (g := gb173) (o := .cells #[.int .i64 ((rd_T63 l1 x20_1).f0), .string ((rd_T63 l1 x20_1).f1.f0), .int .i64 ((rd_T63 l1 x20_1).f1.f1), .bool ((rd_T63 l1 x20_1).f1.f2), .bool ((rd_T63 l1 x20_1).f1.f3), .bool ((rd_T63 l1 x20_1).f1.f4)] 63 (0, 0)) (by (with_reducible repeat (first | refine blk_drewN ?_ _ | refine blk_drew ?_ | refine blk_alloc ?_ _)); refine blk_far ?_ NB173_174.out _; (with_reducible repeat (first | refine blk_drewN ?_ _ | refine blk_drew ?_ | refine blk_alloc ?_ _)); exact BK173.out) k_ hk, Kd.freshB (g := gb174) (o := .cells #[.int .i64 5, .string (⟨#[]⟩ : ByteArray), .int .i64 0, .bool false, .bool false, .bool false] 63 (0, 0)) (by (with_reducible repeat (first | refine blk_drewN ?_ _ | refine blk_drew ?_ | refine blk_alloc ?_ _)); refine blk_put (cs := #[.int .i64 ((rd_T63 l1 x20_1).f0), .string (⟨#[]⟩ : ByteArray), .int .i64 0, .bool false, .bool false, .bool false]) ?_ 0 _ rfl; (with_reducible repeat (first | refine blk_drewN ?_ _ | refine blk_drew ?_ | refine blk_alloc ?_ _)); exact BK174.out) k_ hk⟩)); (case aO => exact (by exact rel <| Kd.R_mono (Kd.R_far (p := ⟨gb174, 0, none⟩) (Kd.R_mono HO_7.out (fun k_ hk => (⟨hk, hk.2⟩ : _ ∧ k_ ≠ gb174))) (fun _ hk => hk.2) (.int .i64 5)) (fun _ hk => ⟨hk.1.1, hk.1.2⟩))); (case aS => exact (below_size (by repeat (first | (with_reducible first | exact HB.out | apply bA | apply bN | apply bD | refine below_set ?_ GE173.out | refine below_set ?_ GE174.out) | exact HB.out)))); (case aL => have := LMc31.out; omega); intro v180 w35 ho hb hg hat; rw [← Ny179.out] at ho; have n0_ := aS (blk_grown (g := gb173) (o := .cells #[.int .i64 ((rd_T63 l1 x20_1).f0), .string ((rd_T63 l1 x20_1).f1.f0), .int .i64 ((rd_T63 l1 x20_1).f1.f1), .bool ((rd_T63 l1 x20_1).f1.f2), .bool ((rd_T63 l1 x20_1).f1.f3), .bool ((rd_T63 l1 x20_1).f1.f4)] 63 (0, 0)) (by (with_reducible repeat (first | refine blk_drewN ?_ _ | refine blk_drew ?_ | refine blk_alloc ?_ _)); refine blk_far ?_ NB173_174.out _; (with_reducible repeat (first | refine blk_drewN ?_ _ | refine blk_drew ?_ | refine blk_alloc ?_ _)); exact BK173.out) hg (Kd.R_away HO_7.out (fun _ hk => hk.1))); have n1_ := aS (blk_grown (g := gb174) (o := .cells #[.int .i64 5, .string (⟨#[]⟩ : ByteArray), .int .i64 0, .bool false, .bool false, .bool false] 63 (0, 0)) (by (with_reducible repeat (first | refine blk_drewN ?_ _ | refine blk_drew ?_ | refine blk_alloc ?_ _)); refine blk_put (cs := #[.int .i64 ((rd_T63 l1 x20_1).f0), .string (⟨#[]⟩ : ByteArray), .int .i64 0, .bool false, .bool false, .bool false]) ?_ 0 _ rfl; (with_reducible repeat (first | refine blk_drewN ?_ _ | refine blk_drew ?_ | refine blk_alloc ?_ _)); exact BK174.out) hg (Kd.R_away HO_7.out (fun _ hk => hk.2))); have n2_ := aS (hb); have n3_ := aS (ho); clear BK173; clear BK174; clear HB; clear HO_7; have BK173 := n0_; have BK174 := n1_; have HB := n2_; have HO181 := n3_; clear n0_ n1_ n2_ n3_; clear ho hb hg hat; have hcz36_0 : w35.cell? ⟨gb173, 0, none⟩ = some (.int .i64 ((rd_T63 l1 x20_1).f0)) := (blk_cell BK173.out 0).trans rfl; have hcz36_1 : w35.cell? ⟨gb173, 1, none⟩ = some (.string ((rd_T63 l1 x20_1).f1.f0)) := (blk_cell BK173.out 1).trans rfl; have hcz36_2 : w35.cell? ⟨gb173, 2, none⟩ = some (.int .i64 ((rd_T63 l1 x20_1).f1.f1)) := (blk_cell BK173.out 2).trans rfl; have hcz36_3 : w35.cell? ⟨gb173, 3, none⟩ = some (.bool ((rd_T63 l1 x20_1).f1.f2)) := (blk_cell BK173.out 3).trans rfl; have hcz36_4 : w35.cell? ⟨gb173, 4, none⟩ = some (.bool ((rd_T63 l1 x20_1).f1.f3)) := (blk_cell BK173.out 4).trans rfl; have hcz36_5 : w35.cell? ⟨gb173, 5, none⟩ = some (.bool ((rd_T63 l1 x20_1).f1.f4)) := (blk_cell BK173.out 5).trans rfl; have hfz36_0 := blk_frozen BK173.out 0; have hfz36_1 := blk_frozen BK173.out 1; have hfz36_2 := blk_frozen BK173.out 2; have hfz36_3 := blk_frozen BK173.out 3; have hfz36_4 := blk_frozen BK173.out 4; have hfz36_5 := blk_frozen BK173.out 5))
     go_roundg kj8
     case measure => have := HK1.out; have := HJ8.out; omega
     case rel => exact ⟨(y179), (x8_1), (wrap64 (x20_1 + 1)), (by first | rfl | (simp; done) | (simp [*]; done)), (by first | rfl | (simp; done) | (simp [*]; done)), H', ⟨by have := HK1.out; have := HJ8.out; omega⟩, ⟨by exact rel <| Kd.R_mono HO181.out (fun _ hk => trivial)⟩, ⟨by repeat (first | (with_reducible first | exact HB.out | apply bA | apply bN | apply bD | refine below_set ?_ GE173.out | refine below_set ?_ GE174.out) | exact HB.out)⟩⟩
    rw [if_neg c30] at H
    have c30b0 : (((rd_T63 l1 x20_1).f0) == 4) = false := beq_eq_false_iff_ne.mpr c30
    have c30b1 : (((rd_T63 l1 x20_1).f0) != 4) = true := bne_iff_ne.mpr c30
    by_cases c41 : ((rd_T63 l1 x20_1).f0) = 5
    rotate_left
    ·rw [if_neg c41] at H
     have c41b0 : (((rd_T63 l1 x20_1).f0) == 5) = false := beq_eq_false_iff_ne.mpr c41
     have c41b1 : (((rd_T63 l1 x20_1).f0) != 5) = true := bne_iff_ne.mpr c41
     by_cases c54 : x7_1.length < 3518437208883
     rotate_left
     ·rw [if_neg c54] at H
      exact absurd H (by simp)
     rw [if_pos c54] at H
     have LMc54 := aS c54
     clear c54
     obtain ⟨y186, hy186⟩ : ∃ y_ : List (S63), y_ = (x7_1 ++ [(⟨((rd_T63 l1 x20_1).f0), (⟨(⟨#[]⟩ : ByteArray), 0, false, false, false⟩ : S50)⟩ : S63)]) := ⟨_, rfl⟩
     replace H : (if ((rd_T63 l1 x20_1).f0) = 4 then (compare_Invert.l0 kj8 l0 y186 x8_1 l1 (l1.length : Int) (wrap64 (x20_1 + 1))) else (compare_Invert.l0 kj8 l0 y186 (wrap64 (x8_1 + 1)) l1 (l1.length : Int) (wrap64 (x20_1 + 1)))) = some (r1, r2) := by first | (rw [hy186]; with_reducible exact H) | (have H2_ := (Option.bind_some _ _).symm.trans H; rw [hy186]; with_reducible exact H2_) | (have H2_ := (Option.bind_some _ _).symm.trans H; with_reducible exact H2_) | with_reducible exact H | (rw [hy186]; exact H) | exact H
     have Ny186 := aS hy186
     clear hy186
     by_cases c55 : ((rd_T63 l1 x20_1).f0) = 4
     ·rw [if_pos c55] at H
      have c55b0 : (((rd_T63 l1 x20_1).f0) == 4) = true := beq_iff_eq.mpr c55
      exact absurd (c30b0.symm.trans c55b0) (by decide)
     rw [if_neg c55] at H
     have c55b0 : (((rd_T63 l1 x20_1).f0) == 4) = false := beq_eq_false_iff_ne.mpr c55
     have c55b1 : (((rd_T63 l1 x20_1).f0) != 4) = true := bne_iff_ne.mpr c55
     have H' := aS H
     clear H
     have hnb60 := NB174_173.out
     have hnc60 := NB173_174.out
     have hcz61_0 : wc.cell? ⟨gb174, 0, none⟩ = some (.int .i64 ((rd_T63 l1 x20_1).f0)) := (blk_cell BK174.out 0).trans rfl
     have hcz61_1 : wc.cell? ⟨gb174, 1, none⟩ = some (.string (⟨#[]⟩ : ByteArray)) := (blk_cell BK174.out 1).trans rfl
     have hcz61_2 : wc.cell? ⟨gb174, 2, none⟩ = some (.int .i64 0) := (blk_cell BK174.out 2).trans rfl
     have hcz61_3 : wc.cell? ⟨gb174, 3, none⟩ = some (.bool false) := (blk_cell BK174.out 3).trans rfl
     have hcz61_4 : wc.cell? ⟨gb174, 4, none⟩ = some (.bool false) := (blk_cell BK174.out 4).trans rfl
     have hcz61_5 : wc.cell? ⟨gb174, 5, none⟩ = some (.bool false) := (blk_cell BK174.out 5).trans rfl
     have hfz61_0 := blk_frozen BK174.out 0
     have hfz61_1 := blk_frozen BK174.out 1
     have hfz61_2 := blk_frozen BK174.out 2
     have hfz61_3 := blk_frozen BK174.out 3
     have hfz61_4 := blk_frozen BK174.out 4
     have hfz61_5 := blk_frozen BK174.out 5
     go_wp2_with (first | ((with_reducible refine gate_builtin (b := .append) (xs := #[.tmp 47, .tmp 49]) rfl ?_); at_builtin; refine Kd.R_append k63 (w0 := w) w.heap.size rfl (.tmp 47) (.tmp 49) 28 63 (.agg #[(.int .i64 0), (.string ⟨#[]⟩), (.int .i64 0), (.bool false), (.bool false), (.bool false)]) 40 rfl Try.underlying28 info63 rfl (by decide) (by omega) u7 x7_1 (⟨((rd_T63 l1 x20_1).f0), (⟨(⟨#[]⟩ : ByteArray), 0, false, false, false⟩ : S50)⟩ : S63) [.int .i64 ((rd_T63 l1 x20_1).f0), .string (⟨#[]⟩ : ByteArray), .int .i64 0, .bool false, .bool false, .bool false] (fun k_ => k_ ≠ gb173 ∧ k_ ≠ gb174) (fun _ => False) rfl rfl ?aP (fun _ hk => hk.elim) ?aF ?aO ?aB ?aS ?aL ?_; (case aP => exact k63_mkM _ _ _ (⟨((rd_T63 l1 x20_1).f0), (⟨(⟨#[]⟩ : ByteArray), 0, false, false, false⟩ : S50)⟩ : S63)); (case aB => exact (by repeat (first | (with_reducible first | exact HB.out | apply bA | apply bN | apply bD | refine below_set ?_ GE173.out | refine below_set ?_ GE174.out) | exact HB.out))); (case aF => exact (fun k_ hk => ⟨Kd.freshB (g := gb173) (o := .cells #[.int .i64 ((rd_T63 l1 x20_1).f0), .string ((rd_T63 l1 x20_1).f1.f0), .int .i64 ((rd_T63 l1 x20_1).f1.f1), .bool ((rd_T63 l1 x20_1).f1.f2), .bool ((rd_T63 l1 x20_1).f1.f3), .bool ((rd_T63 l1 x20_1).f1.f4)] 63 (0, 0)) (by (with_reducible repeat (first | refine blk_drewN ?_ _ | refine blk_drew ?_ | refine blk_alloc ?_ _)); exact BK173.out) k_ hk, Kd.freshB (g := gb174) (o := .cells #[.int .i64 ((rd_T63 l1 x20_1).f0), .string (⟨#[]⟩ : ByteArray), .int .i64 0, .bool false, .bool false, .bool false] 63 (0, 0)) (by (with_reducible repeat (first | refine blk_drewN ?_ _ | refine blk_drew ?_ | refine blk_alloc ?_ _)); exact BK174.out) k_ hk⟩)); (case aO => exact (by exact rel <| HO_7.out)); (case aS => exact (below_size (by repeat (first | (with_reducible first | exact HB.out | apply bA | apply bN | apply bD | refine below_set ?_ GE173.out | refine below_set ?_ GE174.out) | exact HB.out)))); (case aL => have := LMc54.out; omega); intro v187 w62 ho hb hg hat; rw [← Ny186.out] at ho; have n0_ := aS (blk_grown (g := gb173) (o := .cells #[.int .i64 ((rd_T63 l1 x20_1).f0), .string ((rd_T63 l1 x20_1).f1.f0), .int .i64 ((rd_T63 l1 x20_1).f1.f1), .bool ((rd_T63 l1 x20_1).f1.f2), .bool ((rd_T63 l1 x20_1).f1.f3), .bool ((rd_T63 l1 x20_1).f1.f4)] 63 (0, 0)) (by (with_reducible repeat (first | refine blk_drewN ?_ _ | refine blk_drew ?_ | refine blk_alloc ?_ _)); exact BK173.out) hg (Kd.R_away HO_7.out (fun _ hk => hk.1))); have n1_ := aS (blk_grown (g := gb174) (o := .cells #[.int .i64 ((rd_T63 l1 x20_1).f0), .string (⟨#[]⟩ : ByteArray), .int .i64 0, .bool false, .bool false, .bool false] 63 (0, 0)) (by (with_reducible repeat (first | refine blk_drewN ?_ _ | refine blk_drew ?_ | refine blk_alloc ?_ _)); exact BK174.out) hg (Kd.R_away HO_7.out (fun _ hk => hk.2))); have n2_ := aS (hb); have n3_ := aS (ho); clear BK173; clear BK174; clear HB; clear HO_7; have BK173 := n0_; have BK174 := n1_; have HB := n2_; have HO188 := n3_; clear n0_ n1_ n2_ n3_; clear ho hb hg hat; have hcz63_0 : w62.cell? ⟨gb173, 0, none⟩ = some (.int .i64 ((rd_T63 l1 x20_1).f0)) := (blk_cell BK173.out 0).trans rfl; have hcz63_1 : w62.cell? ⟨gb173, 1, none⟩ = some (.string ((rd_T63 l1 x20_1).f1.f0)) := (blk_cell BK173.out 1).trans rfl; have hcz63_2 : w62.cell? ⟨gb173, 2, none⟩ = some (.int .i64 ((rd_T63 l1 x20_1).f1.f1)) := (blk_cell BK173.out 2).trans rfl; have hcz63_3 : w62.cell? ⟨gb173, 3, none⟩ = some (.bool ((rd_T63 l1 x20_1).f1.f2)) := (blk_cell BK173.out 3).trans rfl; have hcz63_4 : w62.cell? ⟨gb173, 4, none⟩ = some (.bool ((rd_T63 l1 x20_1).f1.f3)) := (blk_cell BK173.out 4).trans rfl; have hcz63_5 : w62.cell? ⟨gb173, 5, none⟩ = some (.bool ((rd_T63 l1 x20_1).f1.f4)) := (blk_cell BK173.out 5).trans rfl; have hfz63_0 := blk_frozen BK173.out 0; have hfz63_1 := blk_frozen BK173.out 1; have hfz63_2 := blk_frozen BK173.out 2; have hfz63_3 := blk_frozen BK173.out 3; have hfz63_4 := blk_frozen BK173.out 4; have hfz63_5 := blk_frozen BK173.out 5))
     go_roundg kj8
     case measure => have := HK1.out; have := HJ8.out; omega
     case rel => exact ⟨(y186), (wrap64 (x8_1 + 1)), (wrap64 (x20_1 + 1)), (by first | rfl | (simp; done) | (simp [*]; done)), (by first | rfl | (simp; done) | (simp [*]; done)), H', ⟨by have := HK1.out; have := HJ8.out; omega⟩, ⟨by exact rel <| Kd.R_mono HO188.out (fun _ hk => trivial)⟩, ⟨by repeat (first | (with_reducible first | exact HB.out | apply bA | apply bN | apply bD | refine below_set ?_ GE173.out | refine below_set ?_ GE174.out) | exact HB.out)⟩⟩
    rw [if_pos c41] at H
    have c41b0 : (((rd_T63 l1 x20_1).f0) == 5) = true := beq_iff_eq.mpr c41
    have c41b1 : (((rd_T63 l1 x20_1).f0) != 5) = false := bne_eq_false_iff_eq.mpr c41
    clear c41
    by_cases c42 : 0 ≤ x8_1
    rotate_left
    ·rw [if_neg c42] at H
     exact absurd H (by simp)
    rw [if_pos c42] at H
    have c42b0 : decide (0 ≤ x8_1) = true := decide_eq_true c42
    clear c42
    by_cases c43 : x8_1 < (l0.length : Int)
    rotate_left
    ·rw [if_neg c43] at H
     exact absurd H (by simp)
    rw [if_pos c43] at H
    have c43b0 : decide (x8_1 < (l0.length : Int)) = true := decide_eq_true c43
    clear c43
    by_cases c44 : x7_1.length < 3518437208883
    rotate_left
    ·rw [if_neg c44] at H
     exact absurd H (by simp)
    rw [if_pos c44] at H
    have LMc44 := aS c44
    clear c44
    obtain ⟨y183, hy183⟩ : ∃ y_ : List (S63), y_ = (x7_1 ++ [(⟨4, (⟨(rd_T50 l0 x8_1).f0, (rd_T50 l0 x8_1).f1, (rd_T50 l0 x8_1).f2, (rd_T50 l0 x8_1).f3, (rd_T50 l0 x8_1).f4⟩ : S50)⟩ : S63)]) := ⟨_, rfl⟩
    replace H : (if ((rd_T63 l1 x20_1).f0) = 4 then (compare_Invert.l0 kj8 l0 y183 x8_1 l1 (l1.length : Int) (wrap64 (x20_1 + 1))) else (compare_Invert.l0 kj8 l0 y183 (wrap64 (x8_1 + 1)) l1 (l1.length : Int) (wrap64 (x20_1 + 1)))) = some (r1, r2) := by first | (rw [hy183]; with_reducible exact H) | (have H2_ := (Option.bind_some _ _).symm.trans H; rw [hy183]; with_reducible exact H2_) | (have H2_ := (Option.bind_some _ _).symm.trans H; with_reducible exact H2_) | with_reducible exact H | (rw [hy183]; exact H) | exact H
    have Ny183 := aS hy183
    clear hy183
    by_cases c45 : ((rd_T63 l1 x20_1).f0) = 4
    ·rw [if_pos c45] at H
     have c45b0 : (((rd_T63 l1 x20_1).f0) == 4) = true := beq_iff_eq.mpr c45
     exact absurd ((eq_of_beq c41b0).symm.trans (eq_of_beq c45b0)) (by decide)
    rw [if_neg c45] at H
    have c45b0 : (((rd_T63 l1 x20_1).f0) == 4) = false := beq_eq_false_iff_ne.mpr c45
    have c45b1 : (((rd_T63 l1 x20_1).f0) != 4) = true := bne_iff_ne.mpr c45
    have H' := aS H
    clear H
    have p182 : 0 ≤ (x8_1 : Int) := of_decide_eq_true (by first | (with_reducible assumption) | assumption)
    have q182 : x8_1 < (l0.length : Int) := of_decide_eq_true (by first | (with_reducible assumption) | assumption)
    obtain ⟨ad182, e182, hx182_0, hx182_1, hx182_2, hx182_3, hx182_4⟩ := at_T50 HR0.out x8_1 p182 q182
    cases e182
    replace hx182_0 := hup HB.out hx182_0
    replace hx182_1 := hup HB.out hx182_1
    replace hx182_2 := hup HB.out hx182_2
    replace hx182_3 := hup HB.out hx182_3
    replace hx182_4 := hup HB.out hx182_4
    replace p182 := eq_true p182
    replace q182 := eq_true q182
    have hnb50 := NB174_173.out
    have hnc50 := NB173_174.out
    have hcz51_0 : wc.cell? ⟨gb174, 0, none⟩ = some (.int .i64 ((rd_T63 l1 x20_1).f0)) := (blk_cell BK174.out 0).trans rfl
    have hcz51_1 : wc.cell? ⟨gb174, 1, none⟩ = some (.string (⟨#[]⟩ : ByteArray)) := (blk_cell BK174.out 1).trans rfl
    have hcz51_2 : wc.cell? ⟨gb174, 2, none⟩ = some (.int .i64 0) := (blk_cell BK174.out 2).trans rfl
    have hcz51_3 : wc.cell? ⟨gb174, 3, none⟩ = some (.bool false) := (blk_cell BK174.out 3).trans rfl
    have hcz51_4 : wc.cell? ⟨gb174, 4, none⟩ = some (.bool false) := (blk_cell BK174.out 4).trans rfl
    have hcz51_5 : wc.cell? ⟨gb174, 5, none⟩ = some (.bool false) := (blk_cell BK174.out 5).trans rfl
    have hfz51_0 := blk_frozen BK174.out 0
    have hfz51_1 := blk_frozen BK174.out 1
    have hfz51_2 := blk_frozen BK174.out 2
    have hfz51_3 := blk_frozen BK174.out 3
    have hfz51_4 := blk_frozen BK174.out 4
    have hfz51_5 := blk_frozen BK174.out 5
    go_wp2_with (first | ((with_reducible refine gate_builtin (b := .append) (xs := #[.tmp 47, .tmp 49]) rfl ?_); at_builtin; refine Kd.R_append k63 (w0 := w) w.heap.size rfl (.tmp 47) (.tmp 49) 28 63 (.agg #[(.int .i64 0), (.string ⟨#[]⟩), (.int .i64 0), (.bool false), (.bool false), (.bool false)]) 40 rfl Try.underlying28 info63 rfl (by decide) (by omega) u7 x7_1 (⟨4, (⟨(rd_T50 l0 x8_1).f0, (rd_T50 l0 x8_1).f1, (rd_T50 l0 x8_1).f2, (rd_T50 l0 x8_1).f3, (rd_T50 l0 x8_1).f4⟩ : S50)⟩ : S63) [.int .i64 4, .string ((rd_T50 l0 x8_1).f0), .int .i64 ((rd_T50 l0 x8_1).f1), .bool ((rd_T50 l0 x8_1).f2), .bool ((rd_T50 l0 x8_1).f3), .bool ((rd_T50 l0 x8_1).f4)] (fun k_ => k_ ≠ gb173 ∧ k_ ≠ gb174) (fun _ => False) rfl (by first | (go_simp; done) | (go_simp; rfl)) ?aP (fun _ hk => hk.elim) ?aF ?aO ?aB ?aS ?aL ?_; (case aP => exact k63_mkM _ _ _ (⟨4, (⟨(rd_T50 l0 x8_1).f0, (rd_T50 l0 x8_1).f1, (rd_T50 l0 x8_1).f2, (rd_T50 l0 x8_1).f3, (rd_T50 l0 x8_1).f4⟩ : S50)⟩ : S63)); (case aB => exact (by repeat (first | (with_reducible first | exact HB.out | apply bA | apply bN | apply bD | refine below_set ?_ GE173.out | refine below_set ?_ GE174.out) | exact HB.out))); (case aF => exact (fun k_ hk => ⟨Kd.freshB (g := gb173) (o := .cells #[.int .i64 ((rd_T63 l1 x20_1).f0), .string ((rd_T63 l1 x20_1).f1.f0), .int .i64 ((rd_T63 l1 x20_1).f1.f1), .bool ((rd_T63 l1 x20_1).f1.f2), .bool ((rd_T63 l1 x20_1).f1.f3), .bool ((rd_T63 l1 x20_1).f1.f4)] 63 (0, 0)) (by (with_reducible repeat (first | refine blk_drewN ?_ _ | refine blk_drew ?_ | refine blk_alloc ?_ _)); refine blk_far ?_ NB173_174.out _; (with_reducible repeat (first | refine blk_drewN ?_ _ | refine blk_drew ?_ | refine blk_alloc ?_ _)); refine blk_far ?_ NB173_174.out _; (with_reducible repeat (first | refine blk_drewN ?_ _ | refine blk_drew ?_ | refine blk_alloc ?_ _)); refine blk_far ?_ NB173_174.out _; (with_reducible repeat (first | refine blk_drewN ?_ _ | refine blk_drew ?_ | refine blk_alloc ?_ _)); refine blk_far ?_ NB173_174.out _; (with_reducible repeat (first | refine blk_drewN ?_ _ | refine blk_drew ?_ | refine blk_alloc ?_ _)); refine blk_far ?_ NB173_174.out _; (with_reducible repeat (first | refine blk_drewN ?_ _ | refine blk_drew ?_ | refine blk_alloc ?_ _)); refine blk_far ?_ NB173_174.out _; (with_reducible repeat (first | refine blk_drewN ?_ _ | refine blk_drew ?_ | refine blk_alloc ?_ _)); exact BK173.out) k_ hk, Kd.freshB (g := gb174) (o := .cells #[.int .i64 4, .string ((rd_T50 l0 x8_1).f0), .int .i64 ((rd_T50 l0 x8_1).f1), .bool ((rd_T50 l0 x8_1).f2), .bool ((rd_T50 l0 x8_1).f3), .bool ((rd_T50 l0 x8_1).f4)] 63 (0, 0)) (by (with_reducible repeat (first | refine blk_drewN ?_ _ | refine blk_drew ?_ | refine blk_alloc ?_ _)); refine blk_put (cs := #[.int .i64 4, .string ((rd_T50 l0 x8_1).f0), .int .i64 ((rd_T50 l0 x8_1).f1), .bool ((rd_T50 l0 x8_1).f2), .bool ((rd_T50 l0 x8_1).f3), .bool false]) ?_ 5 _ rfl; (with_reducible repeat (first | refine blk_drewN ?_ _ | refine blk_drew ?_ | refine blk_alloc ?_ _)); refine blk_put (cs := #[.int .i64 4, .string ((rd_T50 l0 x8_1).f0), .int .i64 ((rd_T50 l0 x8_1).f1), .bool ((rd_T50 l0 x8_1).f2), .bool false, .bool false]) ?_ 4 _ rfl; (with_reducible repeat (first | refine blk_drewN ?_ _ | refine blk_drew ?_ | refine blk_alloc ?_ _)); refine blk_put (cs := #[.int .i64 4, .string ((rd_T50 l0 x8_1).f0), .int .i64 ((rd_T50 l0 x8_1).f1), .bool false, .bool false, .bool false]) ?_ 3 _ rfl; (with_reducible repeat (first | refine blk_drewN ?_ _ | refine blk_drew ?_ | refine blk_alloc ?_ _)); refine blk_put (cs := #[.int .i64 4, .string ((rd_T50 l0 x8_1).f0), .int .i64 0, .bool false, .bool false, .bool false]) ?_ 2 _ rfl; (with_reducible repeat (first | refine blk_drewN ?_ _ | refine blk_drew ?_ | refine blk_alloc ?_ _)); refine blk_put (cs := #[.int .i64 4, .string (⟨#[]⟩ : ByteArray), .int .i64 0, .bool false, .bool false, .bool false]) ?_ 1 _ rfl; (with_reducible repeat (first | refine blk_drewN ?_ _ | refine blk_drew ?_ | refine blk_alloc ?_ _)); refine blk_put (cs := #[.int .i64 ((rd_T63 l1 x20_1).f0), .string (⟨#[]⟩ : ByteArray), .int .i64 0, .bool false, .bool false, .bool false]) ?_ 0 _ rfl; (with_reducible repeat (first | refine blk_drewN ?_ _ | refine blk_drew ?_ | refine blk_alloc ?_ _)); exact BK174.out) k_ hk⟩)); (case aO => exact (by exact rel <| Kd.R_mono (Kd.R_far (p := ⟨gb174, 5, none⟩) (Kd.R_far (p := ⟨gb174, 4, none⟩) (Kd.R_far (p := ⟨gb174, 3, none⟩) (Kd.R_far (p := ⟨gb174, 2, none⟩) (Kd.R_far (p := ⟨gb174, 1, none⟩) (Kd.R_far (p := ⟨gb174, 0, none⟩) (Kd.R_mono HO_7.out (fun k_ hk => (⟨hk, hk.2⟩ : _ ∧ k_ ≠ gb174))) (fun _ hk => hk.2) (.int .i64 4)) (fun _ hk => hk.2) (.string ((rd_T50 l0 x8_1).f0))) (fun _ hk => hk.2) (.int .i64 ((rd_T50 l0 x8_1).f1))) (fun _ hk => hk.2) (.bool ((rd_T50 l0 x8_1).f2))) (fun _ hk => hk.2) (.bool ((rd_T50 l0 x8_1).f3))) (fun _ hk => hk.2) (.bool ((rd_T50 l0 x8_1).f4))) (fun _ hk => ⟨hk.1.1, hk.1.2⟩))); (case aS => exact (below_size (by repeat (first | (with_reducible first | exact HB.out | apply bA | apply bN | apply bD | refine below_set ?_ GE173.out | refine below_set ?_ GE174.out) | exact HB.out)))); (case aL => have := LMc44.out; omega); intro v184 w52 ho hb hg hat; rw [← Ny183.out] at ho; have n0_ := aS (blk_grown (g := gb173) (o := .cells #[.int .i64 ((rd_T63 l1 x20_1).f0), .string ((rd_T63 l1 x20_1).f1.f0), .int .i64 ((rd_T63 l1 x20_1).f1.f1), .bool ((rd_T63 l1 x20_1).f1.f2), .bool ((rd_T63 l1 x20_1).f1.f3), .bool ((rd_T63 l1 x20_1).f1.f4)] 63 (0, 0)) (by (with_reducible repeat (first | refine blk_drewN ?_ _ | refine blk_drew ?_ | refine blk_alloc ?_ _)); refine blk_far ?_ NB173_174.out _; (with_reducible repeat (first | refine blk_drewN ?_ _ | refine blk_drew ?_ | refine blk_alloc ?_ _)); refine blk_far ?_ NB173_174.out _; (with_reducible repeat (first | refine blk_drewN ?_ _ | refine blk_drew ?_ | refine blk_alloc ?_ _)); refine blk_far ?_ NB173_174.out _; (with_reducible repeat (first | refine blk_drewN ?_ _ | refine blk_drew ?_ | refine blk_alloc ?_ _)); refine blk_far ?_ NB173_174.out _; (with_reducible repeat (first | refine blk_drewN ?_ _ | refine blk_drew ?_ | refine blk_alloc ?_ _)); refine blk_far ?_ NB173_174.out _; (with_reducible repeat (first | refine blk_drewN ?_ _ | refine blk_drew ?_ | refine blk_alloc ?_ _)); refine blk_far ?_ NB173_174.out _; (with_reducible repeat (first | refine blk_drewN ?_ _ | refine blk_drew ?_ | refine blk_alloc ?_ _)); exact BK173.out) hg (Kd.R_away HO_7.out (fun _ hk => hk.1))); have n1_ := aS (blk_grown (g := gb174) (o := .cells #[.int .i64 4, .string ((rd_T50 l0 x8_1).f0), .int .i64 ((rd_T50 l0 x8_1).f1), .bool ((rd_T50 l0 x8_1).f2), .bool ((rd_T50 l0 x8_1).f3), .bool ((rd_T50 l0 x8_1).f4)] 63 (0, 0)) (by (with_reducible repeat (first | refine blk_drewN ?_ _ | refine blk_drew ?_ | refine blk_alloc ?_ _)); refine blk_put (cs := #[.int .i64 4, .string ((rd_T50 l0 x8_1).f0), .int .i64 ((rd_T50 l0 x8_1).f1), .bool ((rd_T50 l0 x8_1).f2), .bool ((rd_T50 l0 x8_1).f3), .bool false]) ?_ 5 _ rfl; (with_reducible repeat (first | refine blk_drewN ?_ _ | refine blk_drew ?_ | refine blk_alloc ?_ _)); refine blk_put (cs := #[.int .i64 4, .string ((rd_T50 l0 x8_1).f0), .int .i64 ((rd_T50 l0 x8_1).f1), .bool ((rd_T50 l0 x8_1).f2), .bool false, .bool false]) ?_ 4 _ rfl; (with_reducible repeat (first | refine blk_drewN ?_ _ | refine blk_drew ?_ | refine blk_alloc ?_ _)); refine blk_put (cs := #[.int .i64 4, .string ((rd_T50 l0 x8_1).f0), .int .i64 ((rd_T50 l0 x8_1).f1), .bool false, .bool false, .bool false]) ?_ 3 _ rfl; (with_reducible repeat (first | refine blk_drewN ?_ _ | refine blk_drew ?_ | refine blk_alloc ?_ _)); refine blk_put (cs := #[.int .i64 4, .string ((rd_T50 l0 x8_1).f0), .int .i64 0, .bool false, .bool false, .bool false]) ?_ 2 _ rfl; (with_reducible repeat (first | refine blk_drewN ?_ _ | refine blk_drew ?_ | refine blk_alloc ?_ _)); refine blk_put (cs := #[.int .i64 4, .string (⟨#[]⟩ : ByteArray), .int .i64 0, .bool false, .bool false, .bool false]) ?_ 1 _ rfl; (with_reducible repeat (first | refine blk_drewN ?_ _ | refine blk_drew ?_ | refine blk_alloc ?_ _)); refine blk_put (cs := #[.int .i64 ((rd_T63 l1 x20_1).f0), .string (⟨#[]⟩ : ByteArray), .int .i64 0, .bool false, .bool false, .bool false]) ?_ 0 _ rfl; (with_reducible repeat (first | refine blk_drewN ?_ _ | refine blk_drew ?_ | refine blk_alloc ?_ _)); exact BK174.out) hg (Kd.R_away HO_7.out (fun _ hk => hk.2))); have n2_ := aS (hb); have n3_ := aS (ho); clear BK173; clear BK174; clear HB; clear HO_7; have BK173 := n0_; have BK174 := n1_; have HB := n2_; have HO185 := n3_; clear n0_ n1_ n2_ n3_; clear ho hb hg hat; have hcz53_0 : w52.cell? ⟨gb173, 0, none⟩ = some (.int .i64 ((rd_T63 l1 x20_1).f0)) := (blk_cell BK173.out 0).trans rfl; have hcz53_1 : w52.cell? ⟨gb173, 1, none⟩ = some (.string ((rd_T63 l1 x20_1).f1.f0)) := (blk_cell BK173.out 1).trans rfl; have hcz53_2 : w52.cell? ⟨gb173, 2, none⟩ = some (.int .i64 ((rd_T63 l1 x20_1).f1.f1)) := (blk_cell BK173.out 2).trans rfl; have hcz53_3 : w52.cell? ⟨gb173, 3, none⟩ = some (.bool ((rd_T63 l1 x20_1).f1.f2)) := (blk_cell BK173.out 3).trans rfl; have hcz53_4 : w52.cell? ⟨gb173, 4, none⟩ = some (.bool ((rd_T63 l1 x20_1).f1.f3)) := (blk_cell BK173.out 4).trans rfl; have hcz53_5 : w52.cell? ⟨gb173, 5, none⟩ = some (.bool ((rd_T63 l1 x20_1).f1.f4)) := (blk_cell BK173.out 5).trans rfl; have hfz53_0 := blk_frozen BK173.out 0; have hfz53_1 := blk_frozen BK173.out 1; have hfz53_2 := blk_frozen BK173.out 2; have hfz53_3 := blk_frozen BK173.out 3; have hfz53_4 := blk_frozen BK173.out 4; have hfz53_5 := blk_frozen BK173.out 5))
    go_roundg kj8
    case measure => have := HK1.out; have := HJ8.out; omega
    case rel => exact ⟨(y183), (wrap64 (x8_1 + 1)), (wrap64 (x20_1 + 1)), (by first | rfl | (simp; done) | (simp [*]; done)), (by first | rfl | (simp; done) | (simp [*]; done)), H', ⟨by have := HK1.out; have := HJ8.out; omega⟩, ⟨by exact rel <| Kd.R_mono HO185.out (fun _ hk => trivial)⟩, ⟨by repeat (first | (with_reducible first | exact HB.out | apply bA | apply bN | apply bD | refine below_set ?_ GE173.out | refine below_set ?_ GE174.out) | exact HB.out)⟩⟩
end Go.Proofs.Ytjmbkbnbepmhjaa.P
