-- out of a program (drive.sh), by way of the translation's print
import Derived.Test.YtjmbkbnbepmhjaaPx0
import Derived.Test.YtjmbkbnbepmhjaaPx6
namespace Go.Proofs.Ytjmbkbnbepmhjaa.P
open Go.RowKit Go.Proofs.YtjmbkbnbepmhjaaW.PrintWords Go.Proofs.YtjmbkbnbepmhjaaW.PrintLast Go.Proofs.YtjmbkbnbepmhjaaW.PrintMore
attribute [local go_sem] max2_int min2_int max_two min_two max_three min_three max_four min_four   -- for this text's walks alone
set_option linter.unusedVariables false
set_option linter.unusedSimpArgs false

/-! ### compare_Distance: function 13 -/
def compare_Distance.f (l0 : List (S50)) (l1 : List (S50)) : Option (Int × Int) := if (l0.length : Int) > 30 then (some (0, 6)) else (if (l1.length : Int) > 30 then (some (0, 6)) else ((compare_table.f l0 l1).bind fun t106 => (if 0 < (t106.length : Int) then (if 0 < ((rd_L6 t106 0).length : Int) then (some (rd (rd_L6 t106 0) 0, 0)) else (none)) else (none))))
set_option maxHeartbeats 8000000 in
set_option maxRecDepth 100000 in
theorem compare_Distance.calls (A0 : Option Addr) (c0 : Nat) (l0 : List (S50)) (A1 : Option Addr) (c1 : Nat) (l1 : List (S50)) (r1 : Int) (r2 : Int) (w : World) (hr0 : Kd.C k50 w A0 l0.length l0) (hc0 : l0.length ≤ c0) (hr1 : Kd.C k50 w A1 l1.length l1) (hc1 : l1.length ≤ c1) (h : compare_Distance.f l0 l1 = some (r1, r2)) :
  Calls Try.prog 13 #[.slice A0 l0.length c0, .slice A1 l1.length c1] w fun e w' => e = .returned (.tuple #[.int .i64 r1, .int .i64 r2]) ∧ Below w.heap.size w w' := by
 have HR0 := aS hr0
 have HC0 := aS hc0
 clear hr0 hc0
 have HR1 := aS hr1
 have HC1 := aS hc1
 clear hr1 hc1
 have HB := aS (Below.refl w.heap.size w)
 have H : (if (l0.length : Int) > 30 then (some (0, 6)) else (if (l1.length : Int) > 30 then (some (0, 6)) else ((compare_table.f l0 l1).bind fun t106 => (if 0 < (t106.length : Int) then (if 0 < ((rd_L6 t106 0).length : Int) then (some (rd (rd_L6 t106 0) 0, 0)) else (none)) else (none))))) = some (r1, r2) := h
 clear h
 by_cases c3 : (l0.length : Int) > 30
 ·rw [if_pos c3] at H
  have c3b0 : decide (30 < (l0.length : Int)) = true := decide_eq_true c3
  have c3b1 : decide (30 < l0.length) = true := decide_eq_true (by omega)
  clear c3
  simp only [Option.some.injEq, Prod.mk.injEq] at H
  obtain ⟨rfl, rfl⟩ := H
  go_enter Try.func13, Try.ntmps13
  go_wp2
  go_ret2
  exact ⟨by first | rfl | (simp [errW_none, errW_some] <;> rfl) | (simp [*, errW_none, errW_some] <;> rfl), by first | exact bel HB.out | exact HB.out⟩
 rw [if_neg c3] at H
 have c3b0 : decide (30 < (l0.length : Int)) = false := decide_eq_false c3
 have c3b1 : decide (30 < l0.length) = false := decide_eq_false (by omega)
 clear c3
 by_cases c4 : (l1.length : Int) > 30
 ·rw [if_pos c4] at H
  have c4b0 : decide (30 < (l1.length : Int)) = true := decide_eq_true c4
  have c4b1 : decide (30 < l1.length) = true := decide_eq_true (by omega)
  clear c4
  simp only [Option.some.injEq, Prod.mk.injEq] at H
  obtain ⟨rfl, rfl⟩ := H
  go_enter Try.func13, Try.ntmps13
  go_wp2
  go_ret2
  exact ⟨by first | rfl | (simp [errW_none, errW_some] <;> rfl) | (simp [*, errW_none, errW_some] <;> rfl), by first | exact bel HB.out | exact HB.out⟩
 rw [if_neg c4] at H
 have c4b0 : decide (30 < (l1.length : Int)) = false := decide_eq_false c4
 have c4b1 : decide (30 < l1.length) = false := decide_eq_false (by omega)
 clear c4
 replace H := Option.bind_eq_some_iff.mp H
 obtain ⟨t106, A50, H⟩ := H
 replace H : (if 0 < (t106.length : Int) then (if 0 < ((rd_L6 t106 0).length : Int) then (some (rd (rd_L6 t106 0) 0, 0)) else (none)) else (none)) = some (r1, r2) := H
 have A5 := aS A50
 clear A50
 by_cases c6 : 0 < (t106.length : Int)
 rotate_left
 ·rw [if_neg c6] at H
  exact absurd H (by simp)

 rw [if_pos c6] at H
 have c6b0 : decide (0 < (t106.length : Int)) = true := decide_eq_true c6
 have c6b1 : decide (0 < t106.length) = true := decide_eq_true (by omega)
 clear c6
 by_cases c7 : 0 < ((rd_L6 t106 0).length : Int)
 rotate_left
 ·rw [if_neg c7] at H
  exact absurd H (by simp)
 rw [if_pos c7] at H
 have c7b0 : decide (0 < ((rd_L6 t106 0).length : Int)) = true := decide_eq_true c7
 have c7b1 : decide (0 < (rd_L6 t106 0).length) = true := decide_eq_true (by omega)
 clear c7
 simp only [Option.some.injEq, Prod.mk.injEq] at H
 obtain ⟨rfl, rfl⟩ := H
 go_enter Try.func13, Try.ntmps13
 go_wp2_with (first | ((with_reducible refine gate_callee (f := 33) rfl ?_); refine goesL_ (some 16) rfl rfl Try.func33 (by kernel_rfl) rfl #[.slice A0 l0.length c0, .slice A1 l1.length c1] rfl (by (try simp only [List.map_toArray, List.map_cons, List.map_nil]); first | done | rfl | (simp only [List.length_drop, List.length_take]; rfl)) ?_; (with_reducible refine (compare_table.calls _ _ l0 _ _ l1 t106 _ ?side1 ?side2 ?side3 ?side4 A5.out).mono ?_); (case side1 => repeat (first | exact HR0.out | (with_reducible apply Kd.C_alloc) | (with_reducible apply Kd.C_drewN) | (with_reducible apply Kd.C_drew))); (case side2 => exact HC0.out); (case side3 => repeat (first | exact HR1.out | (with_reducible apply Kd.C_alloc) | (with_reducible apply Kd.C_drewN) | (with_reducible apply Kd.C_drew))); (case side4 => exact HC1.out); rintro e w8 ⟨v107, rfl, ho0, hb⟩; refine ⟨_, rfl, ?_⟩; have n0_ := aS (Kd.N_lower (Kd.N_mono (ok' := fun k_ => True) ho0 (fun k_ hk_ => trivial)) (below_size (by first | exact bel HB.out | exact HB.out))); have n1_ := aS (below_step (by first | exact bel HB.out | exact HB.out) hb); clear HB; have HO108 := n0_; have HB := n1_; clear n0_ n1_; (try clear hb); (try clear hb2); (try clear hk); (try clear hi); (try clear ho0); obtain ⟨Ao9, co9, eo9⟩ := Kd.N_slice HO108.out; subst eo9; have p109 : 0 ≤ (0 : Int) := (by omega); have q109 : 0 < (t106.length : Int) := of_decide_eq_true (by first | (with_reducible assumption) | assumption); obtain ⟨ad109, A109_0, c109_0, e109, hx109_0, hl109_0, hi109_0⟩ := at_L6 (Kd.N_reads' HO108.out).2.2 0 p109 q109; cases e109; obtain ⟨ce109, hce109, hMe109, hcc109⟩ := Kd.N_get HO108.out [] 0 p109 (by first | exact q109 | exact of_decide_eq_true (by first | (with_reducible assumption) | assumption) | (have e_ := (Kd.N_reads' HO108.out).1; omega)); obtain ⟨ua109_0, uc109_0, rfl, ul109_0, ge109_0⟩ := Kd.FK_slice_open hMe109; have hv109_0 := hcc109 0 _ rfl; rw [Nat.add_zero, show ((Kd.slice 3 (Kd.int .i64))).sz = 1 from rfl, Nat.mul_one] at hv109_0; replace hv109_0 := Option.some.inj (hv109_0.symm.trans hx109_0); injection hv109_0 with hva_ hvn_ hvc_; rw [hva_] at ge109_0; rw [hvc_] at ul109_0; have HL109_0 := aS (show Kd.V (Kd.int .i64) 3 _ w.heap.size _ _ (rd_L6 t106 0) from Kd.V_mk ul109_0 ge109_0); clear hva_ hvn_ hvc_ ge109_0 ul109_0; clear hcc109 hce109; have qi109 : (0 < t106.length) = True := eq_true (by omega); (try rw [show ((0 : Int)).toNat = 0 from rfl] at hx109_0); (try rw [Addr.add_zero'] at hx109_0); have HR109_0 := aS hi109_0; have HC109_0 := aS hl109_0; clear hi109_0 hl109_0; replace p109 := eq_true p109; replace q109 := eq_true q109; have p110 : 0 ≤ (0 : Int) := (by omega); have q110 : 0 < ((rd_L6 t106 0).length : Int) := of_decide_eq_true (by first | (with_reducible assumption) | assumption); obtain ⟨ad110, e110, hx110_0⟩ := Kd.at_int (by repeat (first | (with_reducible exact HR109_0.out) | (with_reducible apply Kd.C_alloc) | (with_reducible apply Kd.C_drewN) | (with_reducible apply Kd.C_drew) | exact HR109_0.out)) 0 p110 q110; cases e110; have qi110 : (0 < (rd_L6 t106 0).length) = True := eq_true (by omega); (try rw [show ((0 : Int)).toNat = 0 from rfl] at hx110_0); (try rw [Addr.add_zero'] at hx110_0); replace p110 := eq_true p110; replace q110 := eq_true q110))
 go_ret2
 exact ⟨by first | rfl | (simp [errW_none, errW_some] <;> rfl) | (simp [*, errW_none, errW_some] <;> rfl), by first | exact bel HB.out | exact HB.out⟩
end Go.Proofs.Ytjmbkbnbepmhjaa.P
