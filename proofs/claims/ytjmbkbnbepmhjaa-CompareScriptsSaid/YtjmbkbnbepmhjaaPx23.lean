-- out of a program (drive.sh), by way of the translation's print
import Derived.Test.YtjmbkbnbepmhjaaPx0
import Derived.Test.YtjmbkbnbepmhjaaPx22
namespace Go.Proofs.Ytjmbkbnbepmhjaa.P
open Go.RowKit Go.Proofs.YtjmbkbnbepmhjaaW.PrintWords Go.Proofs.YtjmbkbnbepmhjaaW.PrintLast Go.Proofs.YtjmbkbnbepmhjaaW.PrintMore
attribute [local go_sem] max2_int min2_int max_two min_two max_three min_three max_four min_four   -- for this text's walks alone
set_option linter.unusedVariables false
set_option linter.unusedSimpArgs false

/-! ### salchowref25_Distance: function 14 -/
def salchowref25_Distance.f (k : Nat) (l0 : List (S50)) (l1 : List (S50)) : Option (Int × Int) := if (l0.length : Int) > 30 then (some (0, 6)) else (if (l1.length : Int) > 30 then (some (0, 6)) else ((salchowref25_Table.f k l0 l1).bind fun t289 => (if 0 < (t289.length : Int) then (if 0 < ((rd_L6 t289 0).length : Int) then (some (rd (rd_L6 t289 0) 0, 0)) else (none)) else (none))))
theorem salchowref25_Distance.mono : ∀ a0 a1 k, LeO (salchowref25_Distance.f k a0 a1) (salchowref25_Distance.f (k + 1) a0 a1) := by
 intro a0 a1 k
 unfold salchowref25_Distance.f
 repeat' first
   | (with_reducible exact salchowref25_Table.mono _ _ _)
   | (with_reducible exact LeO.refl _)
   | (with_reducible exact LeO.none _)
   | (with_reducible refine LeO.ite ?_ ?_)
   | (with_reducible refine LeO.bind ?_ (fun _ => ?_))
   | exact salchowref25_Table.mono _ _ _
   | exact LeO.none _
   | refine LeO.ite ?_ ?_
   | refine LeO.bind ?_ (fun _ => ?_)
set_option maxHeartbeats 8000000 in
set_option maxRecDepth 100000 in
theorem salchowref25_Distance.calls (k : Nat) (A0 : Option Addr) (c0 : Nat) (l0 : List (S50)) (A1 : Option Addr) (c1 : Nat) (l1 : List (S50)) (r1 : Int) (r2 : Int) (w : World) (hr0 : Kd.C k50 w A0 l0.length l0) (hc0 : l0.length ≤ c0) (hr1 : Kd.C k50 w A1 l1.length l1) (hc1 : l1.length ≤ c1) (h : salchowref25_Distance.f k l0 l1 = some (r1, r2)) :
  Calls Try.prog 14 #[.slice A0 l0.length c0, .slice A1 l1.length c1] w fun e w' => e = .returned (.tuple #[.int .i64 r1, .int .i64 r2]) ∧ Below w.heap.size w w' := by
 have HR0 := aS hr0
 have HC0 := aS hc0
 clear hr0 hc0
 have HR1 := aS hr1
 have HC1 := aS hc1
 clear hr1 hc1
 have HB := aS (Below.refl w.heap.size w)
 have H : (if (l0.length : Int) > 30 then (some (0, 6)) else (if (l1.length : Int) > 30 then (some (0, 6)) else ((salchowref25_Table.f k l0 l1).bind fun t289 => (if 0 < (t289.length : Int) then (if 0 < ((rd_L6 t289 0).length : Int) then (some (rd (rd_L6 t289 0) 0, 0)) else (none)) else (none))))) = some (r1, r2) := h
 clear h
 by_cases c3 : (l0.length : Int) > 30
 ·rw [if_pos c3] at H
  have c3b0 : decide (30 < (l0.length : Int)) = true := decide_eq_true c3
  have c3b1 : decide (30 < l0.length) = true := decide_eq_true (by omega)
  clear c3
  simp only [Option.some.injEq, Prod.mk.injEq] at H
  obtain ⟨rfl, rfl⟩ := H
  go_enter Try.func14, Try.ntmps14
  go_wp2
  go_ret2
  exact ⟨by first | rfl | (simp [errW_none, errW_some] <;> rfl) | (simp [*, errW_none, errW_some] <;> rfl), by first | exact bel HB.out | exact HB.out⟩
 rw [if_neg c3] at H
 have c3b0 : decide (30 < (l0.length : Int)) = false := decide_eq_false c3
 have c3b1 : decide (30 < l0.length) = false := decide_eq_false (by omega)
 clear c3
 by_cases c4 : (l1.length : Int) > 30
 ·rw [if_pos c4] at H
  have c4b0 : decide (30 < (l1.length : Int)) = true := decide_eq_true c4
  have c4b1 : decide (30 < l1.length) = true := decide_eq_true (by omega)
  clear c4
  simp only [Option.some.injEq, Prod.mk.injEq] at H
  obtain ⟨rfl, rfl⟩ := H
  go_enter Try.func14, Try.ntmps14
  go_wp2
  go_ret2
  exact ⟨by first | rfl | (simp [errW_none, errW_some] <;> rfl) | (simp [*, errW_none, errW_some] <;> rfl), by first | exact bel HB.out | exact HB.out⟩
 rw [if_neg c4] at H
 have c4b0 : decide (30 < (l1.length : Int)) = false := decide_eq_false c4
 have c4b1 : decide (30 < l1.length) = false := decide_eq_false (by omega)
 clear c4
 replace H := Option.bind_eq_some_iff.mp H
 obtain ⟨t289, A50, H⟩ := H
 replace H : (if 0 < (t289.length : Int) then (if 0 < ((rd_L6 t289 0).length : Int) then (some (rd (rd_L6 t289 0) 0, 0)) else (none)) else (none)) = some (r1, r2) := H
 have A5 := aS A50
 clear A50
 by_cases c6 : 0 < (t289.length : Int)
 rotate_left
 ·rw [if_neg c6] at H
  exact absurd H (by simp)

 rw [if_pos c6] at H
 have c6b0 : decide (0 < (t289.length : Int)) = true := decide_eq_true c6
 have c6b1 : decide (0 < t289.length) = true := decide_eq_true (by omega)
 clear c6
 by_cases c7 : 0 < ((rd_L6 t289 0).length : Int)
 rotate_left
 ·rw [if_neg c7] at H
  exact absurd H (by simp)
 rw [if_pos c7] at H
 have c7b0 : decide (0 < ((rd_L6 t289 0).length : Int)) = true := decide_eq_true c7
 have c7b1 : decide (0 < (rd_L6 t289 0).length) = true := decide_eq_true (by omega)
 clear c7
 simp only [Option.some.injEq, Prod.mk.injEq] at H
 obtain ⟨rfl, rfl⟩ := H
 go_enter Try.func14, Try.ntmps14
 go_wp2_with (first | ((with_reducible refine gate_callee (f := 34) rfl ?_); refine goesL_ (some 16) rfl rfl Try.func34 (by kernel_rfl) rfl #[.slice A0 l0.length c0, .slice A1 l1.length c1] rfl (by (try simp only [List.map_toArray, List.map_cons, List.map_nil]); first | done | rfl | (simp only [List.length_drop, List.length_take]; rfl)) ?_; (with_reducible refine (salchowref25_Table.calls k _ _ l0 _ _ l1 t289 _ ?side1 ?side2 ?side3 ?side4 A5.out).mono ?_); (case side1 => repeat (first | exact HR0.out | (with_reducible apply Kd.C_alloc) | (with_reducible apply Kd.C_drewN) | (with_reducible apply Kd.C_drew))); (case side2 => exact HC0.out); (case side3 => repeat (first | exact HR1.out | (with_reducible apply Kd.C_alloc) | (with_reducible apply Kd.C_drewN) | (with_reducible apply Kd.C_drew))); (case side4 => exact HC1.out); rintro e w8 ⟨v290, rfl, ho0, hb⟩; refine ⟨_, rfl, ?_⟩; have n0_ := aS (Kd.S_lower ho0 (below_size (by first | exact bel HB.out | exact HB.out))); have n1_ := aS (below_step (by first | exact bel HB.out | exact HB.out) hb); clear HB; have HO291 := n0_; have HB := n1_; clear n0_ n1_; (try clear hb); (try clear hb2); (try clear hk); (try clear hi); (try clear ho0); obtain ⟨Ao9, co9, eo9⟩ := Kd.S_slice HO291.out; subst eo9; have p292 : 0 ≤ (0 : Int) := (by omega); have q292 : 0 < (t289.length : Int) := of_decide_eq_true (by first | (with_reducible assumption) | assumption); obtain ⟨ad292, A292_0, c292_0, e292, hx292_0, hl292_0, hi292_0⟩ := at_L6 (Kd.S_reads' HO291.out).2.2 0 p292 q292; cases e292; obtain ⟨ce292, hce292, hMe292, hcc292⟩ := Kd.S_get HO291.out [] 0 p292 (by first | exact q292 | exact of_decide_eq_true (by first | (with_reducible assumption) | assumption) | (have e_ := (Kd.S_reads' HO291.out).1; omega)); obtain ⟨ve292_0, rfl, ge292_0⟩ := hMe292; have hv292_0 := hcc292 0 _ rfl; rw [Nat.add_zero, show ((Kd.slice 3 (Kd.int .i64))).sz = 1 from rfl, Nat.mul_one] at hv292_0; replace hv292_0 := Option.some.inj (hv292_0.symm.trans hx292_0); rw [hv292_0] at ge292_0; have HL292_0 := aS (show Kd.R (Kd.int .i64) 3 _ _ _ _ (rd_L6 t289 0) from ge292_0); clear hv292_0 ge292_0; clear hcc292 hce292; have qi292 : (0 < t289.length) = True := eq_true (by omega); (try rw [show ((0 : Int)).toNat = 0 from rfl] at hx292_0); (try rw [Addr.add_zero'] at hx292_0); have HR292_0 := aS hi292_0; have HC292_0 := aS hl292_0; clear hi292_0 hl292_0; replace p292 := eq_true p292; replace q292 := eq_true q292; have p293 : 0 ≤ (0 : Int) := (by omega); have q293 : 0 < ((rd_L6 t289 0).length : Int) := of_decide_eq_true (by first | (with_reducible assumption) | assumption); obtain ⟨ad293, e293, hx293_0⟩ := Kd.at_int (by repeat (first | (with_reducible exact HR292_0.out) | (with_reducible apply Kd.C_alloc) | (with_reducible apply Kd.C_drewN) | (with_reducible apply Kd.C_drew) | exact HR292_0.out)) 0 p293 q293; cases e293; have qi293 : (0 < (rd_L6 t289 0).length) = True := eq_true (by omega); (try rw [show ((0 : Int)).toNat = 0 from rfl] at hx293_0); (try rw [Addr.add_zero'] at hx293_0); replace p293 := eq_true p293; replace q293 := eq_true q293))
 go_ret2
 exact ⟨by first | rfl | (simp [errW_none, errW_some] <;> rfl) | (simp [*, errW_none, errW_some] <;> rfl), by first | exact bel HB.out | exact HB.out⟩
end Go.Proofs.Ytjmbkbnbepmhjaa.P
