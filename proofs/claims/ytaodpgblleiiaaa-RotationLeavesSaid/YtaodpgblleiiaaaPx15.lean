-- out of a program (drive.sh), by way of the translation's print
import Derived.Test.YtaodpgblleiiaaaPx0
import Derived.Test.YtaodpgblleiiaaaPx2
import Derived.Test.YtaodpgblleiiaaaPx4
import Derived.Test.YtaodpgblleiiaaaPx8
import Derived.Test.YtaodpgblleiiaaaPx12
namespace Go.Proofs.Ytaodpgblleiiaaa.P
open Go.RowKit Go.Proofs.YtaodpgblleiiaaaW.PrintWords Go.Proofs.YtaodpgblleiiaaaW.PrintLast Go.Proofs.YtaodpgblleiiaaaW.PrintMore
attribute [local go_sem] max2_int min2_int max_two min_two max_three min_three max_four min_four   -- for this text's walks alone
set_option linter.unusedVariables false
set_option linter.unusedSimpArgs false

/-! ### salchowlaw36_RotationLeaves: function 10 -/
mutual
def salchowlaw36_RotationLeaves.j0 : Nat → List (List Int) → Bool → Option (Bool)
  | 0, _, _ => none
  | k + 1, x0, x19 => if x19 = true then (some true) else ((rotation_Carry.f k x0).bind fun bt478 => (if bt478.2 = 0 then (salchowlaw36_RotationLeaves.j1 k bt478.1 (x0.length : Int) ((bt478.1.length : Int) != (x0.length : Int))) else (salchowlaw36_RotationLeaves.j1 k bt478.1 (x0.length : Int) true)))
def salchowlaw36_RotationLeaves.j1 : Nat → List (List Int) → Int → Bool → Option (Bool)
  | 0, _, _, _ => none
  | k + 1, x3, x5, x34 => if x34 = true then (some false) else (salchowlaw36_RotationLeaves.l0 k x3 x5 0)
def salchowlaw36_RotationLeaves.l0 : Nat → List (List Int) → Int → Int → Option (Bool)
  | 0, _, _, _ => none
  | k + 1, x3, x5, x6 => if x6 < x5 then (salchowlaw36_RotationLeaves.l1 k x3 x5 x6 0 0 0) else (some true)
def salchowlaw36_RotationLeaves.l1 : Nat → List (List Int) → Int → Int → Int → Int → Int → Option (Bool)
  | 0, _, _, _, _, _, _ => none
  | k + 1, x3, x5, x6, x7, x8, x9 => if x9 < x5 then (if 0 ≤ x9 then (if x9 < (x3.length : Int) then (if ((rd_L1 x3 x9).length : Int) = x5 then (if 0 ≤ x6 then (if x6 < (x3.length : Int) then (if x9 < ((rd_L1 x3 x6).length : Int) then (if (rd (rd_L1 x3 x6) x9) < 0 then (some false) else (if x6 = x9 then (if (rd (rd_L1 x3 x6) x9) = 0 then (if x6 < ((rd_L1 x3 x9).length : Int) then (salchowlaw36_RotationLeaves.l1 k x3 x5 x6 (wrap64 (x7 + (rd (rd_L1 x3 x6) x9))) (wrap64 (x8 + (rd (rd_L1 x3 x9) x6))) (wrap64 (x9 + 1))) else (none)) else (some false)) else (if x6 < ((rd_L1 x3 x9).length : Int) then (salchowlaw36_RotationLeaves.l1 k x3 x5 x6 (wrap64 (x7 + (rd (rd_L1 x3 x6) x9))) (wrap64 (x8 + (rd (rd_L1 x3 x9) x6))) (wrap64 (x9 + 1))) else (none)))) else (none)) else (none)) else (none)) else (some false)) else (none)) else (none)) else (if x7 = (wrap64 (x5 - 1)) then (if x8 = (wrap64 (x5 - 1)) then (salchowlaw36_RotationLeaves.l0 k x3 x5 (wrap64 (x6 + 1))) else (some false)) else (some false))
end
def salchowlaw36_RotationLeaves.f (k : Nat) (l0 : List (List Int)) : Option (Bool) := (salchowlaw36_awake.f k).bind fun t475 => (if t475 = true then ((salchowref36_Small.f k l0).bind fun t476 => (if t476 = true then ((rotation_Latin.f k l0).bind fun t477 => (salchowlaw36_RotationLeaves.j0 k l0 (!t477))) else (salchowlaw36_RotationLeaves.j0 k l0 true))) else (some false))
theorem salchowlaw36_RotationLeaves.mono_l : ∀ k, (∀ y0 y1, LeO (salchowlaw36_RotationLeaves.j0 k y0 y1) (salchowlaw36_RotationLeaves.j0 (k + 1) y0 y1)) ∧ (∀ y0 y1 y2, LeO (salchowlaw36_RotationLeaves.j1 k y0 y1 y2) (salchowlaw36_RotationLeaves.j1 (k + 1) y0 y1 y2)) ∧ (∀ y0 y1 y2, LeO (salchowlaw36_RotationLeaves.l0 k y0 y1 y2) (salchowlaw36_RotationLeaves.l0 (k + 1) y0 y1 y2)) ∧ (∀ y0 y1 y2 y3 y4 y5, LeO (salchowlaw36_RotationLeaves.l1 k y0 y1 y2 y3 y4 y5) (salchowlaw36_RotationLeaves.l1 (k + 1) y0 y1 y2 y3 y4 y5))
  | 0 => ⟨fun _ _ r h => by simp [salchowlaw36_RotationLeaves.j0] at h, fun _ _ _ r h => by simp [salchowlaw36_RotationLeaves.j1] at h, fun _ _ _ r h => by simp [salchowlaw36_RotationLeaves.l0] at h, fun _ _ _ _ _ _ r h => by simp [salchowlaw36_RotationLeaves.l1] at h⟩
  | k + 1 => by
    obtain ⟨ih0, ih1, ih2, ih3⟩ := salchowlaw36_RotationLeaves.mono_l k
    refine ⟨?_, ?_, ?_, ?_⟩
    · intro y0 y1
      unfold salchowlaw36_RotationLeaves.j0
      repeat' first
      | (with_reducible exact ih0 _ _)
      | (with_reducible exact ih1 _ _ _)
      | (with_reducible exact ih2 _ _ _)
      | (with_reducible exact ih3 _ _ _ _ _ _)
      | (with_reducible exact rotation_Carry.mono _ _)
      | (with_reducible exact rotation_Latin.mono _ _)
      | (with_reducible exact salchowlaw36_awake.mono _)
      | (with_reducible exact salchowref36_Small.mono _ _)
      | (with_reducible exact LeO.refl _)
      | (with_reducible exact LeO.none _)
      | (with_reducible refine LeO.ite ?_ ?_)
      | (with_reducible refine LeO.bind ?_ (fun _ => ?_))
      | exact ih0 _ _
      | exact ih1 _ _ _
      | exact ih2 _ _ _
      | exact ih3 _ _ _ _ _ _
      | exact rotation_Carry.mono _ _
      | exact rotation_Latin.mono _ _
      | exact salchowlaw36_awake.mono _
      | exact salchowref36_Small.mono _ _
      | exact LeO.none _
      | refine LeO.ite ?_ ?_
      | refine LeO.bind ?_ (fun _ => ?_)
    · intro y0 y1 y2
      unfold salchowlaw36_RotationLeaves.j1
      repeat' first
      | (with_reducible exact ih0 _ _)
      | (with_reducible exact ih1 _ _ _)
      | (with_reducible exact ih2 _ _ _)
      | (with_reducible exact ih3 _ _ _ _ _ _)
      | (with_reducible exact rotation_Carry.mono _ _)
      | (with_reducible exact rotation_Latin.mono _ _)
      | (with_reducible exact salchowlaw36_awake.mono _)
      | (with_reducible exact salchowref36_Small.mono _ _)
      | (with_reducible exact LeO.refl _)
      | (with_reducible exact LeO.none _)
      | (with_reducible refine LeO.ite ?_ ?_)
      | (with_reducible refine LeO.bind ?_ (fun _ => ?_))
      | exact ih0 _ _
      | exact ih1 _ _ _
      | exact ih2 _ _ _
      | exact ih3 _ _ _ _ _ _
      | exact rotation_Carry.mono _ _
      | exact rotation_Latin.mono _ _
      | exact salchowlaw36_awake.mono _
      | exact salchowref36_Small.mono _ _
      | exact LeO.none _
      | refine LeO.ite ?_ ?_
      | refine LeO.bind ?_ (fun _ => ?_)
    · intro y0 y1 y2
      unfold salchowlaw36_RotationLeaves.l0
      repeat' first
      | (with_reducible exact ih0 _ _)
      | (with_reducible exact ih1 _ _ _)
      | (with_reducible exact ih2 _ _ _)
      | (with_reducible exact ih3 _ _ _ _ _ _)
      | (with_reducible exact rotation_Carry.mono _ _)
      | (with_reducible exact rotation_Latin.mono _ _)
      | (with_reducible exact salchowlaw36_awake.mono _)
      | (with_reducible exact salchowref36_Small.mono _ _)
      | (with_reducible exact LeO.refl _)
      | (with_reducible exact LeO.none _)
      | (with_reducible refine LeO.ite ?_ ?_)
      | (with_reducible refine LeO.bind ?_ (fun _ => ?_))
      | exact ih0 _ _
      | exact ih1 _ _ _
      | exact ih2 _ _ _
      | exact ih3 _ _ _ _ _ _
      | exact rotation_Carry.mono _ _
      | exact rotation_Latin.mono _ _
      | exact salchowlaw36_awake.mono _
      | exact salchowref36_Small.mono _ _
      | exact LeO.none _
      | refine LeO.ite ?_ ?_
      | refine LeO.bind ?_ (fun _ => ?_)
    · intro y0 y1 y2 y3 y4 y5
      unfold salchowlaw36_RotationLeaves.l1
      repeat' first
      | (with_reducible exact ih0 _ _)
      | (with_reducible exact ih1 _ _ _)
      | (with_reducible exact ih2 _ _ _)
      | (with_reducible exact ih3 _ _ _ _ _ _)
      | (with_reducible exact rotation_Carry.mono _ _)
      | (with_reducible exact rotation_Latin.mono _ _)
      | (with_reducible exact salchowlaw36_awake.mono _)
      | (with_reducible exact salchowref36_Small.mono _ _)
      | (with_reducible exact LeO.refl _)
      | (with_reducible exact LeO.none _)
      | (with_reducible refine LeO.ite ?_ ?_)
      | (with_reducible refine LeO.bind ?_ (fun _ => ?_))
      | exact ih0 _ _
      | exact ih1 _ _ _
      | exact ih2 _ _ _
      | exact ih3 _ _ _ _ _ _
      | exact rotation_Carry.mono _ _
      | exact rotation_Latin.mono _ _
      | exact salchowlaw36_awake.mono _
      | exact salchowref36_Small.mono _ _
      | exact LeO.none _
      | refine LeO.ite ?_ ?_
      | refine LeO.bind ?_ (fun _ => ?_)
theorem salchowlaw36_RotationLeaves.mono : ∀ a0 k, LeO (salchowlaw36_RotationLeaves.f k a0) (salchowlaw36_RotationLeaves.f (k + 1) a0) := by
  intro a0 k
  obtain ⟨ih0, ih1, ih2, ih3⟩ := salchowlaw36_RotationLeaves.mono_l k
  unfold salchowlaw36_RotationLeaves.f
  repeat' first
      | (with_reducible exact ih0 _ _)
      | (with_reducible exact ih1 _ _ _)
      | (with_reducible exact ih2 _ _ _)
      | (with_reducible exact ih3 _ _ _ _ _ _)
      | (with_reducible exact rotation_Carry.mono _ _)
      | (with_reducible exact rotation_Latin.mono _ _)
      | (with_reducible exact salchowlaw36_awake.mono _)
      | (with_reducible exact salchowref36_Small.mono _ _)
      | (with_reducible exact LeO.refl _)
      | (with_reducible exact LeO.none _)
      | (with_reducible refine LeO.ite ?_ ?_)
      | (with_reducible refine LeO.bind ?_ (fun _ => ?_))
      | exact ih0 _ _
      | exact ih1 _ _ _
      | exact ih2 _ _ _
      | exact ih3 _ _ _ _ _ _
      | exact rotation_Carry.mono _ _
      | exact rotation_Latin.mono _ _
      | exact salchowlaw36_awake.mono _
      | exact salchowref36_Small.mono _ _
      | exact LeO.none _
      | refine LeO.ite ?_ ?_
      | refine LeO.bind ?_ (fun _ => ?_)
set_option maxHeartbeats 8000000 in
set_option maxRecDepth 100000 in
theorem salchowlaw36_RotationLeaves.calls (k : Nat) (A0 : Option Addr) (c0 : Nat) (l0 : List (List Int)) (r : Bool) (w : World) (hr0 : Kd.C (Kd.slice 3 (Kd.int .i64)) w A0 l0.length l0) (hc0 : l0.length ≤ c0) (h : salchowlaw36_RotationLeaves.f k l0 = some r) :
    Calls Try.prog 10 #[.slice A0 l0.length c0] w fun e w' => e = .returned (.bool r) ∧ Below w.heap.size w w' := by
  have HR0 := Aside0.mk hr0
  have HC0 := Aside0.mk hc0
  clear hr0 hc0
  have HB := Aside0.mk (Below.refl w.heap.size w)
  have H : ((salchowlaw36_awake.f k).bind fun t475 => (if t475 = true then ((salchowref36_Small.f k l0).bind fun t476 => (if t476 = true then ((rotation_Latin.f k l0).bind fun t477 => (salchowlaw36_RotationLeaves.j0 k l0 (!t477))) else (salchowlaw36_RotationLeaves.j0 k l0 true))) else (some false))) = some r := h
  clear h
  replace H := Option.bind_eq_some_iff.mp H
  obtain ⟨t475, A20, H⟩ := H
  replace H : (if t475 = true then ((salchowref36_Small.f k l0).bind fun t476 => (if t476 = true then ((rotation_Latin.f k l0).bind fun t477 => (salchowlaw36_RotationLeaves.j0 k l0 (!t477))) else (salchowlaw36_RotationLeaves.j0 k l0 true))) else (some false)) = some r := H
  have A2 := Aside0.mk A20
  clear A20
  by_cases c3 : t475 = true
  · subst c3
    have H1 : ((salchowref36_Small.f k l0).bind fun t476 => (if t476 = true then ((rotation_Latin.f k l0).bind fun t477 => (salchowlaw36_RotationLeaves.j0 k l0 (!t477))) else (salchowlaw36_RotationLeaves.j0 k l0 true))) = some r := by rw [if_pos rfl] at H; exact H
    clear H
    have H := H1
    clear H1
    have HC4 := Aside0.mk H
    clear H
    go_enter Try.func10, Try.ntmps10
    go_upto_region 3 with (first | ((with_reducible refine gate_callee (f := 13) rfl ?_); refine goesL_ (some 10) rfl rfl Try.func13 (by kernel_rfl) rfl #[] rfl (by (try simp only [List.map_toArray, List.map_cons, List.map_nil]); first | done | rfl | (simp only [List.length_drop, List.length_take]; rfl)) ?_; (with_reducible refine (salchowlaw36_awake.calls k  true _ A2.out).mono ?_); rintro e w5 ⟨rfl, hb⟩; refine ⟨_, rfl, ?_⟩; have n0_ := Aside0.mk (below_step (by repeat (first | (with_reducible first | exact HB.out | apply below_alloc | apply pw_below_drewN | apply below_drew1) | exact HB.out)) hb); clear HB; have HB := n0_; clear n0_; (try clear hb); (try clear hb2); (try clear hk); (try clear hi)))
    (try simp only [Act.put, List.setIfInBounds_toArray, List.set_cons_zero, List.set_cons_succ])
    go_cut [19] (fun v19 wc => ∃ (kq : Nat) (x19_3 : Bool), v19 = .bool x19_3 ∧ Aside0 (salchowlaw36_RotationLeaves.j0 kq l0 x19_3 = some r) ∧ Aside0 (kq ≤ k) ∧ Aside0 (Below w.heap.size w wc))
    case first =>
      have H := HC4.out
      clear HC4
      replace H := Option.bind_eq_some_iff.mp H
      obtain ⟨t476, A60, H⟩ := H
      replace H : (if t476 = true then ((rotation_Latin.f k l0).bind fun t477 => (salchowlaw36_RotationLeaves.j0 k l0 (!t477))) else (salchowlaw36_RotationLeaves.j0 k l0 true)) = some r := H
      have A6 := Aside0.mk A60
      clear A60
      by_cases c7 : t476 = true
      · subst c7
        have H1 : ((rotation_Latin.f k l0).bind fun t477 => (salchowlaw36_RotationLeaves.j0 k l0 (!t477))) = some r := by rw [if_pos rfl] at H; exact H
        clear H
        have H := H1
        clear H1
        replace H := Option.bind_eq_some_iff.mp H
        obtain ⟨t477, A80, H⟩ := H
        replace H : (salchowlaw36_RotationLeaves.j0 k l0 (!t477)) = some r := H
        have A8 := Aside0.mk A80
        clear A80
        have H' := Aside0.mk H
        clear H
        go_wp2_with (first | ((with_reducible refine gate_callee (f := 23) rfl ?_); refine goesL_ (some 13) rfl rfl Try.func23 (by kernel_rfl) rfl #[.slice A0 l0.length c0] rfl (by (try simp only [List.map_toArray, List.map_cons, List.map_nil]); first | done | rfl | (simp only [List.length_drop, List.length_take]; rfl)) ?_; (with_reducible refine (salchowref36_Small.calls k _ _ l0 true _ ?side1 ?side2 A6.out).mono ?_); (case side1 => repeat (first | exact (Kd.C_below HR0.out HB.out) | (with_reducible refine Kd.C_alloc ?_ _) | (with_reducible refine Kd.C_drewN ?_ _) | (with_reducible refine Kd.C_drew ?_))); (case side2 => exact HC0.out); rintro e w' ⟨rfl, ⟨nd, rfl⟩⟩; refine ⟨_, rfl, ?_⟩) | (go_at_call 19; (with_reducible refine (rotation_Latin.calls k _ _ l0 t477 _ ?side1 ?side2 A8.out).mono ?_); (case side1 => repeat (first | exact (Kd.C_below HR0.out (by repeat (first | (with_reducible first | exact HB.out | apply below_alloc | apply pw_below_drewN | apply below_drew1) | exact HB.out))) | (with_reducible refine Kd.C_alloc ?_ _) | (with_reducible refine Kd.C_drewN ?_ _) | (with_reducible refine Kd.C_drew ?_))); (case side2 => exact HC0.out); rintro e w9 ⟨rfl, hb⟩; have n0_ := Aside0.mk (below_step (by repeat (first | (with_reducible first | exact HB.out | apply below_alloc | apply pw_below_drewN | apply below_drew1) | exact HB.out)) hb); clear HB; have HB := n0_; clear n0_; (try clear hb); (try clear hb2); (try clear hk); (try clear hi)))
        go_meet
        case rel => exact ⟨_, (!t477), (by first | rfl | (simp; done) | (simp [*]; done)), H', ⟨by first | omega | exact Nat.le_refl _⟩, ⟨by repeat (first | (with_reducible first | exact HB.out | apply below_alloc | apply pw_below_drewN | apply below_drew1) | exact HB.out)⟩⟩
      · replace c7 := Bool.eq_false_iff.mpr c7
        subst c7
        have H1 : (salchowlaw36_RotationLeaves.j0 k l0 true) = some r := by rw [if_neg (show ¬ (false = true) by decide)] at H; exact H
        clear H
        have H := H1
        clear H1
        have H' := Aside0.mk H
        clear H
        go_wp2_with (first | ((with_reducible refine gate_callee (f := 23) rfl ?_); refine goesL_ (some 13) rfl rfl Try.func23 (by kernel_rfl) rfl #[.slice A0 l0.length c0] rfl (by (try simp only [List.map_toArray, List.map_cons, List.map_nil]); first | done | rfl | (simp only [List.length_drop, List.length_take]; rfl)) ?_; (with_reducible refine (salchowref36_Small.calls k _ _ l0 false _ ?side1 ?side2 A6.out).mono ?_); (case side1 => repeat (first | exact (Kd.C_below HR0.out HB.out) | (with_reducible refine Kd.C_alloc ?_ _) | (with_reducible refine Kd.C_drewN ?_ _) | (with_reducible refine Kd.C_drew ?_))); (case side2 => exact HC0.out); rintro e w' ⟨rfl, ⟨nd, rfl⟩⟩; refine ⟨_, rfl, ?_⟩))
        go_meet
        case rel => exact ⟨_, (true), (by first | rfl | (simp; done) | (simp [*]; done)), H', ⟨by first | omega | exact Nat.le_refl _⟩, ⟨by repeat (first | (with_reducible first | exact HB.out | apply below_alloc | apply pw_below_drewN | apply below_drew1) | exact HB.out)⟩⟩
    case rest =>
      clear HC4
      try clear c1
      try clear c2
      try clear p2
      try clear c3
      try clear c7
      obtain ⟨kq, x19_3, rfl, HA, HJ3, HB⟩ := hcut
      cases kq with
      | zero => exact absurd HA.out (by simp [salchowlaw36_RotationLeaves.j0])
      | succ kj3 =>
        have H := HA.out
        clear HA
        simp only [salchowlaw36_RotationLeaves.j0] at H
        by_cases c10 : x19_3 = true
        · subst c10
          have H1 : (some true) = some r := by rw [if_pos rfl] at H; exact H
          clear H
          have H := H1
          clear H1
          obtain rfl := Option.some.inj H
          go_wp2
          go_ret
          exact ⟨by first | rfl | (simp [errW_none, errW_some] <;> rfl) | (simp [*, errW_none, errW_some] <;> rfl), by repeat (first | (with_reducible first | exact HB.out | apply below_alloc | apply pw_below_drewN | apply below_drew1) | exact HB.out)⟩
        · replace c10 := Bool.eq_false_iff.mpr c10
          subst c10
          have H1 : ((rotation_Carry.f kj3 l0).bind fun bt478 => (if bt478.2 = 0 then (salchowlaw36_RotationLeaves.j1 kj3 bt478.1 (l0.length : Int) ((bt478.1.length : Int) != (l0.length : Int))) else (salchowlaw36_RotationLeaves.j1 kj3 bt478.1 (l0.length : Int) true))) = some r := by rw [if_neg (show ¬ (false = true) by decide)] at H; exact H
          clear H
          have H := H1
          clear H1
          replace H := Option.bind_eq_some_iff.mp H
          obtain ⟨⟨t478, t479⟩, A110, H⟩ := H
          replace H : (if t479 = 0 then (salchowlaw36_RotationLeaves.j1 kj3 t478 (l0.length : Int) ((t478.length : Int) != (l0.length : Int))) else (salchowlaw36_RotationLeaves.j1 kj3 t478 (l0.length : Int) true)) = some r := H
          have A11 := Aside0.mk A110
          clear A110
          have HC12 := Aside0.mk H
          clear H
          go_upto_region 7 with (first | ((with_reducible refine gate_callee (f := 31) rfl ?_); refine goesL_ (some 22) rfl rfl Try.func31 (by kernel_rfl) rfl #[.slice A0 l0.length c0] rfl (by (try simp only [List.map_toArray, List.map_cons, List.map_nil]); first | done | rfl | (simp only [List.length_drop, List.length_take]; rfl)) ?_; (with_reducible refine (rotation_Carry.calls kj3 _ _ l0 t478 t479 _ ?side1 ?side2 A11.out).mono ?_); (case side1 => repeat (first | exact (Kd.C_below HR0.out HB.out) | (with_reducible refine Kd.C_alloc ?_ _) | (with_reducible refine Kd.C_drewN ?_ _) | (with_reducible refine Kd.C_drew ?_))); (case side2 => exact HC0.out); rintro e w13 ⟨v480, rfl, ho0, hb⟩; refine ⟨_, rfl, ?_⟩; have n0_ := Aside0.mk (Kd.S_lower ho0 (below_size (by repeat (first | (with_reducible first | exact HB.out | apply below_alloc | apply pw_below_drewN | apply below_drew1) | exact HB.out)))); have n1_ := Aside0.mk (below_step (by repeat (first | (with_reducible first | exact HB.out | apply below_alloc | apply pw_below_drewN | apply below_drew1) | exact HB.out)) hb); clear HB; have HO481 := n0_; have HB := n1_; clear n0_ n1_; (try clear hb); (try clear hb2); (try clear hk); (try clear hi); (try clear ho0)))
          (try simp only [Act.put, List.setIfInBounds_toArray, List.set_cons_zero, List.set_cons_succ])
          go_cut [34] (fun v34 wc => ∃ (kq : Nat) (x34_11 : Bool), v34 = .bool x34_11 ∧ Aside0 (salchowlaw36_RotationLeaves.j1 kq t478 (l0.length : Int) x34_11 = some r) ∧ Aside0 (kq ≤ kj3) ∧ Aside0 (Kd.S (Kd.slice 3 (Kd.int .i64)) 31 wc w.heap.size (fun _ => True) v480 t478) ∧ Aside0 (Below w.heap.size w wc))
          case first =>
            have H := HC12.out
            clear HC12
            by_cases c14 : t479 = 0
            · rw [if_pos c14] at H
              have c14b0 : (t479 == 0) = true := beq_iff_eq.mpr c14
              have c14b1 : (t479 != 0) = false := bne_eq_false_iff_eq.mpr c14
              clear c14
              (first | rw [c14b0] | (simp only [i64_w, i32_w]; rw [c14b0]) | skip)
              have H' := Aside0.mk H
              clear H
              obtain ⟨Ao15, co15, eo15⟩ := Kd.S_slice HO481.out
              subst eo15
              go_wp2
              go_meet
              case rel => exact ⟨_, (((t478.length : Int) != (l0.length : Int))), (by first | rfl | (simp; done) | (simp [*]; done)), H', ⟨by have := HJ3.out; first | omega | exact Nat.le_refl _⟩, ⟨by (with_reducible repeat (first | apply Kd.S_alloc | apply Kd.S_drewN | apply Kd.S_drew)); exact HO481.out⟩, ⟨by repeat (first | (with_reducible first | exact HB.out | apply below_alloc | apply pw_below_drewN | apply below_drew1) | exact HB.out)⟩⟩
            · rw [if_neg c14] at H
              have c14b0 : (t479 == 0) = false := beq_eq_false_iff_ne.mpr c14
              have c14b1 : (t479 != 0) = true := bne_iff_ne.mpr c14
              (first | rw [c14b0] | (simp only [i64_w, i32_w]; rw [c14b0]) | skip)
              have H' := Aside0.mk H
              clear H
              go_wp2
              go_meet
              case rel => exact ⟨_, (true), (by first | rfl | (simp; done) | (simp [*]; done)), H', ⟨by have := HJ3.out; first | omega | exact Nat.le_refl _⟩, ⟨by (with_reducible repeat (first | apply Kd.S_alloc | apply Kd.S_drewN | apply Kd.S_drew)); exact HO481.out⟩, ⟨by repeat (first | (with_reducible first | exact HB.out | apply below_alloc | apply pw_below_drewN | apply below_drew1) | exact HB.out)⟩⟩
          case rest =>
            clear HC12
            try clear c1
            try clear c2
            try clear p2
            try clear c3
            try clear c7
            try clear c10
            try clear c13
            try clear c14
            try clear c14b0
            try clear c14b1
            try clear p2
            obtain ⟨kq, x34_11, rfl, HA, HJ11, HO_3, HB⟩ := hcut
            cases kq with
            | zero => exact absurd HA.out (by simp [salchowlaw36_RotationLeaves.j1])
            | succ kj11 =>
              have H := HA.out
              clear HA
              simp only [salchowlaw36_RotationLeaves.j1] at H
              by_cases c16 : x34_11 = true
              · subst c16
                have H1 : (some false) = some r := by rw [if_pos rfl] at H; exact H
                clear H
                have H := H1
                clear H1
                obtain rfl := Option.some.inj H
                go_wp2
                go_ret
                exact ⟨by first | rfl | (simp [errW_none, errW_some] <;> rfl) | (simp [*, errW_none, errW_some] <;> rfl), by repeat (first | (with_reducible first | exact HB.out | apply below_alloc | apply pw_below_drewN | apply below_drew1) | exact HB.out)⟩
              · replace c16 := Bool.eq_false_iff.mpr c16
                subst c16
                have H1 : (salchowlaw36_RotationLeaves.l0 kj11 t478 (l0.length : Int) 0) = some r := by rw [if_neg (show ¬ (false = true) by decide)] at H; exact H
                clear H
                have H := H1
                clear H1
                have H' := Aside0.mk H
                clear H
                go_wp2
                go_loopg [6] kj11 (fun kq v6 w' => ∃ (x6_3 : Int), v6 = .int .i64 x6_3 ∧ Aside0 (salchowlaw36_RotationLeaves.l0 kq t478 (l0.length : Int) x6_3 = some r) ∧ Aside0 (kq ≤ kj11) ∧ Aside0 (Kd.S (Kd.slice 3 (Kd.int .i64)) 31 w' w.heap.size (fun _ => True) v480 t478) ∧ Aside0 (Below w.heap.size w w'))
                case atStart => exact ⟨(0), (by first | rfl | (simp; done) | (simp [*]; done)), H', ⟨Nat.le_refl _⟩, ⟨by (with_reducible repeat (first | apply Kd.S_alloc | apply Kd.S_drewN | apply Kd.S_drew)); exact HO_3.out⟩, ⟨by repeat (first | (with_reducible first | exact HB.out | apply below_alloc | apply pw_below_drewN | apply below_drew1) | exact HB.out)⟩⟩
                case round =>
                  clear H'
                  try clear c1
                  try clear c2
                  try clear p2
                  try clear c3
                  try clear c7
                  try clear c10
                  try clear c13
                  try clear c14
                  try clear c14b0
                  try clear c14b1
                  try clear c16
                  try clear p2
                  obtain ⟨x6_3, rfl, HA, HK3, HO_3, HB⟩ := hrel
                  cases gk with
                  | zero => exact absurd HA.out (by simp [salchowlaw36_RotationLeaves.l0])
                  | succ k3 =>
                    have H := HA.out
                    clear HA
                    simp only [salchowlaw36_RotationLeaves.l0] at H
                    by_cases c17 : x6_3 < (l0.length : Int)
                    · rw [if_pos c17] at H
                      have c17b0 : decide (x6_3 < (l0.length : Int)) = true := decide_eq_true c17
                      clear c17
                      have H' := Aside0.mk H
                      clear H
                      go_wp2
                      go_loopg [7, 8, 9] k3 (fun kq v7 v8 v9 w' => ∃ (x7_4 : Int) (x8_4 : Int) (x9_4 : Int), v7 = .int .i64 x7_4 ∧ v8 = .int .i64 x8_4 ∧ v9 = .int .i64 x9_4 ∧ Aside0 (salchowlaw36_RotationLeaves.l1 kq t478 (l0.length : Int) x6_3 x7_4 x8_4 x9_4 = some r) ∧ Aside0 (kq ≤ k3) ∧ Aside0 (Kd.S (Kd.slice 3 (Kd.int .i64)) 31 w' w.heap.size (fun _ => True) v480 t478) ∧ Aside0 (Below w.heap.size w w'))
                      case atStart => exact ⟨(0), (0), (0), (by first | rfl | (simp; done) | (simp [*]; done)), (by first | rfl | (simp; done) | (simp [*]; done)), (by first | rfl | (simp; done) | (simp [*]; done)), H', ⟨Nat.le_refl _⟩, ⟨by (with_reducible repeat (first | apply Kd.S_alloc | apply Kd.S_drewN | apply Kd.S_drew)); exact HO_3.out⟩, ⟨by repeat (first | (with_reducible first | exact HB.out | apply below_alloc | apply pw_below_drewN | apply below_drew1) | exact HB.out)⟩⟩
                      case round =>
                        clear H'
                        try clear c1
                        try clear c2
                        try clear p2
                        try clear c3
                        try clear c7
                        try clear c10
                        try clear c13
                        try clear c14
                        try clear c14b0
                        try clear c14b1
                        try clear c16
                        try clear c17
                        try clear c17b0
                        try clear p2
                        obtain ⟨x7_4, x8_4, x9_4, rfl, rfl, rfl, HA, HK4, HO_3, HB⟩ := hrel
                        cases gk with
                        | zero => exact absurd HA.out (by simp [salchowlaw36_RotationLeaves.l1])
                        | succ k4 =>
                          have H := HA.out
                          clear HA
                          simp only [salchowlaw36_RotationLeaves.l1] at H
                          by_cases c18 : x9_4 < (l0.length : Int)
                          · rw [if_pos c18] at H
                            have c18b0 : decide (x9_4 < (l0.length : Int)) = true := decide_eq_true c18
                            clear c18
                            by_cases c19 : 0 ≤ x9_4
                            · rw [if_pos c19] at H
                              have c19b0 : decide (0 ≤ x9_4) = true := decide_eq_true c19
                              clear c19
                              by_cases c20 : x9_4 < (t478.length : Int)
                              · rw [if_pos c20] at H
                                have c20b0 : decide (x9_4 < (t478.length : Int)) = true := decide_eq_true c20
                                clear c20
                                by_cases c21 : ((rd_L1 t478 x9_4).length : Int) = (l0.length : Int)
                                · rw [if_pos c21] at H
                                  have c21b0 : (((rd_L1 t478 x9_4).length : Int) == (l0.length : Int)) = true := beq_iff_eq.mpr c21
                                  have c21b1 : (((rd_L1 t478 x9_4).length : Int) != (l0.length : Int)) = false := bne_eq_false_iff_eq.mpr c21
                                  have c21b2 : ((rd_L1 t478 x9_4).length == l0.length) = true := by first | simpa using c21 | (simp at c21 ⊢; omega)
                                  clear c21
                                  by_cases c22 : 0 ≤ x6_3
                                  · rw [if_pos c22] at H
                                    have c22b0 : decide (0 ≤ x6_3) = true := decide_eq_true c22
                                    clear c22
                                    by_cases c23 : x6_3 < (t478.length : Int)
                                    · rw [if_pos c23] at H
                                      have c23b0 : decide (x6_3 < (t478.length : Int)) = true := decide_eq_true c23
                                      clear c23
                                      by_cases c24 : x9_4 < ((rd_L1 t478 x6_3).length : Int)
                                      · rw [if_pos c24] at H
                                        have c24b0 : decide (x9_4 < ((rd_L1 t478 x6_3).length : Int)) = true := decide_eq_true c24
                                        clear c24
                                        by_cases c25 : (rd (rd_L1 t478 x6_3) x9_4) < 0
                                        · rw [if_pos c25] at H
                                          have c25b0 : decide ((rd (rd_L1 t478 x6_3) x9_4) < 0) = true := decide_eq_true c25
                                          clear c25
                                          obtain rfl := Option.some.inj H
                                          obtain ⟨Ao26, co26, eo26⟩ := Kd.S_slice HO_3.out
                                          subst eo26
                                          have p482 : 0 ≤ (x9_4 : Int) := of_decide_eq_true (by first | (with_reducible assumption) | assumption)
                                          have q482 : x9_4 < (t478.length : Int) := of_decide_eq_true (by first | (with_reducible assumption) | assumption)
                                          obtain ⟨ad482, A482_0, c482_0, e482, hx482_0, hl482_0, hi482_0⟩ := at_L1 (Kd.S_reads' HO_3.out).2.2 x9_4 p482 q482
                                          cases e482
                                          obtain ⟨ce482, hce482, hMe482, hcc482⟩ := Kd.S_get HO_3.out [] x9_4 p482 (by first | exact q482 | exact of_decide_eq_true (by first | (with_reducible assumption) | assumption) | (have e_ := (Kd.S_reads' HO_3.out).1; omega))
                                          obtain ⟨ve482_0, rfl, ge482_0⟩ := hMe482
                                          have hv482_0 := hcc482 0 _ rfl
                                          rw [Nat.add_zero, show ((Kd.slice 3 (Kd.int .i64))).sz = 1 from rfl, Nat.mul_one] at hv482_0
                                          replace hv482_0 := Option.some.inj (hv482_0.symm.trans hx482_0)
                                          rw [hv482_0] at ge482_0
                                          have HL482_0 := Aside0.mk (show Kd.R (Kd.int .i64) 3 _ _ _ _ (rd_L1 t478 x9_4) from ge482_0)
                                          clear hv482_0 ge482_0
                                          clear hcc482 hce482
                                          have HR482_0 := Aside0.mk hi482_0
                                          have HC482_0 := Aside0.mk hl482_0
                                          clear hi482_0 hl482_0
                                          replace p482 := eq_true p482
                                          replace q482 := eq_true q482
                                          have p483 : 0 ≤ (x6_3 : Int) := of_decide_eq_true (by first | (with_reducible assumption) | assumption)
                                          have q483 : x6_3 < (t478.length : Int) := of_decide_eq_true (by first | (with_reducible assumption) | assumption)
                                          obtain ⟨ad483, A483_0, c483_0, e483, hx483_0, hl483_0, hi483_0⟩ := at_L1 (Kd.S_reads' HO_3.out).2.2 x6_3 p483 q483
                                          obtain rfl : ad482 = ad483 := (by injection e483)
                                          obtain ⟨ce483, hce483, hMe483, hcc483⟩ := Kd.S_get HO_3.out [] x6_3 p483 (by first | exact q483 | exact of_decide_eq_true (by first | (with_reducible assumption) | assumption) | (have e_ := (Kd.S_reads' HO_3.out).1; omega))
                                          obtain ⟨ve483_0, rfl, ge483_0⟩ := hMe483
                                          have hv483_0 := hcc483 0 _ rfl
                                          rw [Nat.add_zero, show ((Kd.slice 3 (Kd.int .i64))).sz = 1 from rfl, Nat.mul_one] at hv483_0
                                          replace hv483_0 := Option.some.inj (hv483_0.symm.trans hx483_0)
                                          rw [hv483_0] at ge483_0
                                          have HL483_0 := Aside0.mk (show Kd.R (Kd.int .i64) 3 _ _ _ _ (rd_L1 t478 x6_3) from ge483_0)
                                          clear hv483_0 ge483_0
                                          clear hcc483 hce483
                                          have HR483_0 := Aside0.mk hi483_0
                                          have HC483_0 := Aside0.mk hl483_0
                                          clear hi483_0 hl483_0
                                          replace p483 := eq_true p483
                                          replace q483 := eq_true q483
                                          have p484 : 0 ≤ (x9_4 : Int) := of_decide_eq_true (by first | (with_reducible assumption) | assumption)
                                          have q484 : x9_4 < ((rd_L1 t478 x6_3).length : Int) := of_decide_eq_true (by first | (with_reducible assumption) | assumption)
                                          obtain ⟨ad484, e484, hx484_0⟩ := Kd.at_int (by repeat (first | (with_reducible exact HR483_0.out) | (with_reducible refine Kd.C_alloc ?_ _) | (with_reducible refine Kd.C_drewN ?_ _) | (with_reducible refine Kd.C_drew ?_) | exact HR483_0.out)) x9_4 p484 q484
                                          cases e484
                                          replace p484 := eq_true p484
                                          replace q484 := eq_true q484
                                          go_wp2
                                          go_ret
                                          exact ⟨by first | rfl | (simp [errW_none, errW_some] <;> rfl) | (simp [*, errW_none, errW_some] <;> rfl), by repeat (first | (with_reducible first | exact HB.out | apply below_alloc | apply pw_below_drewN | apply below_drew1) | exact HB.out)⟩
                                        · rw [if_neg c25] at H
                                          have c25b0 : decide ((rd (rd_L1 t478 x6_3) x9_4) < 0) = false := decide_eq_false c25
                                          clear c25
                                          by_cases c27 : x6_3 = x9_4
                                          · rw [if_pos c27] at H
                                            have c27b0 : (x6_3 == x9_4) = true := beq_iff_eq.mpr c27
                                            have c27b1 : (x6_3 != x9_4) = false := bne_eq_false_iff_eq.mpr c27
                                            clear c27
                                            by_cases c28 : (rd (rd_L1 t478 x6_3) x9_4) = 0
                                            · rw [if_pos c28] at H
                                              have c28b0 : ((rd (rd_L1 t478 x6_3) x9_4) == 0) = true := beq_iff_eq.mpr c28
                                              have c28b1 : ((rd (rd_L1 t478 x6_3) x9_4) != 0) = false := bne_eq_false_iff_eq.mpr c28
                                              clear c28
                                              by_cases c29 : x6_3 < ((rd_L1 t478 x9_4).length : Int)
                                              · rw [if_pos c29] at H
                                                have c29b0 : decide (x6_3 < ((rd_L1 t478 x9_4).length : Int)) = true := decide_eq_true c29
                                                clear c29
                                                have H' := Aside0.mk H
                                                clear H
                                                obtain ⟨Ao30, co30, eo30⟩ := Kd.S_slice HO_3.out
                                                subst eo30
                                                have p482 : 0 ≤ (x9_4 : Int) := of_decide_eq_true (by first | (with_reducible assumption) | assumption)
                                                have q482 : x9_4 < (t478.length : Int) := of_decide_eq_true (by first | (with_reducible assumption) | assumption)
                                                obtain ⟨ad482, A482_0, c482_0, e482, hx482_0, hl482_0, hi482_0⟩ := at_L1 (Kd.S_reads' HO_3.out).2.2 x9_4 p482 q482
                                                cases e482
                                                obtain ⟨ce482, hce482, hMe482, hcc482⟩ := Kd.S_get HO_3.out [] x9_4 p482 (by first | exact q482 | exact of_decide_eq_true (by first | (with_reducible assumption) | assumption) | (have e_ := (Kd.S_reads' HO_3.out).1; omega))
                                                obtain ⟨ve482_0, rfl, ge482_0⟩ := hMe482
                                                have hv482_0 := hcc482 0 _ rfl
                                                rw [Nat.add_zero, show ((Kd.slice 3 (Kd.int .i64))).sz = 1 from rfl, Nat.mul_one] at hv482_0
                                                replace hv482_0 := Option.some.inj (hv482_0.symm.trans hx482_0)
                                                rw [hv482_0] at ge482_0
                                                have HL482_0 := Aside0.mk (show Kd.R (Kd.int .i64) 3 _ _ _ _ (rd_L1 t478 x9_4) from ge482_0)
                                                clear hv482_0 ge482_0
                                                clear hcc482 hce482
                                                have HR482_0 := Aside0.mk hi482_0
                                                have HC482_0 := Aside0.mk hl482_0
                                                clear hi482_0 hl482_0
                                                replace p482 := eq_true p482
                                                replace q482 := eq_true q482
                                                have p483 : 0 ≤ (x6_3 : Int) := of_decide_eq_true (by first | (with_reducible assumption) | assumption)
                                                have q483 : x6_3 < (t478.length : Int) := of_decide_eq_true (by first | (with_reducible assumption) | assumption)
                                                obtain ⟨ad483, A483_0, c483_0, e483, hx483_0, hl483_0, hi483_0⟩ := at_L1 (Kd.S_reads' HO_3.out).2.2 x6_3 p483 q483
                                                obtain rfl : ad482 = ad483 := (by injection e483)
                                                obtain ⟨ce483, hce483, hMe483, hcc483⟩ := Kd.S_get HO_3.out [] x6_3 p483 (by first | exact q483 | exact of_decide_eq_true (by first | (with_reducible assumption) | assumption) | (have e_ := (Kd.S_reads' HO_3.out).1; omega))
                                                obtain ⟨ve483_0, rfl, ge483_0⟩ := hMe483
                                                have hv483_0 := hcc483 0 _ rfl
                                                rw [Nat.add_zero, show ((Kd.slice 3 (Kd.int .i64))).sz = 1 from rfl, Nat.mul_one] at hv483_0
                                                replace hv483_0 := Option.some.inj (hv483_0.symm.trans hx483_0)
                                                rw [hv483_0] at ge483_0
                                                have HL483_0 := Aside0.mk (show Kd.R (Kd.int .i64) 3 _ _ _ _ (rd_L1 t478 x6_3) from ge483_0)
                                                clear hv483_0 ge483_0
                                                clear hcc483 hce483
                                                have HR483_0 := Aside0.mk hi483_0
                                                have HC483_0 := Aside0.mk hl483_0
                                                clear hi483_0 hl483_0
                                                replace p483 := eq_true p483
                                                replace q483 := eq_true q483
                                                have p484 : 0 ≤ (x9_4 : Int) := of_decide_eq_true (by first | (with_reducible assumption) | assumption)
                                                have q484 : x9_4 < ((rd_L1 t478 x6_3).length : Int) := of_decide_eq_true (by first | (with_reducible assumption) | assumption)
                                                obtain ⟨ad484, e484, hx484_0⟩ := Kd.at_int (by repeat (first | (with_reducible exact HR483_0.out) | (with_reducible refine Kd.C_alloc ?_ _) | (with_reducible refine Kd.C_drewN ?_ _) | (with_reducible refine Kd.C_drew ?_) | exact HR483_0.out)) x9_4 p484 q484
                                                cases e484
                                                replace p484 := eq_true p484
                                                replace q484 := eq_true q484
                                                have p485 : 0 ≤ (x6_3 : Int) := of_decide_eq_true (by first | (with_reducible assumption) | assumption)
                                                have q485 : x6_3 < (t478.length : Int) := of_decide_eq_true (by first | (with_reducible assumption) | assumption)
                                                obtain ⟨ad485, A485_0, c485_0, e485, hx485_0, hl485_0, hi485_0⟩ := at_L1 (Kd.S_reads' HO_3.out).2.2 x6_3 p485 q485
                                                obtain rfl : ad482 = ad485 := (by injection e485)
                                                obtain ⟨ce485, hce485, hMe485, hcc485⟩ := Kd.S_get HO_3.out [] x6_3 p485 (by first | exact q485 | exact of_decide_eq_true (by first | (with_reducible assumption) | assumption) | (have e_ := (Kd.S_reads' HO_3.out).1; omega))
                                                obtain ⟨ve485_0, rfl, ge485_0⟩ := hMe485
                                                have hv485_0 := hcc485 0 _ rfl
                                                rw [Nat.add_zero, show ((Kd.slice 3 (Kd.int .i64))).sz = 1 from rfl, Nat.mul_one] at hv485_0
                                                replace hv485_0 := Option.some.inj (hv485_0.symm.trans hx485_0)
                                                rw [hv485_0] at ge485_0
                                                have HL485_0 := Aside0.mk (show Kd.R (Kd.int .i64) 3 _ _ _ _ (rd_L1 t478 x6_3) from ge485_0)
                                                clear hv485_0 ge485_0
                                                clear hcc485 hce485
                                                have HR485_0 := Aside0.mk hi485_0
                                                have HC485_0 := Aside0.mk hl485_0
                                                clear hi485_0 hl485_0
                                                replace p485 := eq_true p485
                                                replace q485 := eq_true q485
                                                have ea_ := Option.some.inj (hx483_0.symm.trans hx485_0)
                                                injection ea_ with ea_ en_ ec_
                                                subst ea_
                                                subst ec_
                                                clear en_
                                                have p486 : 0 ≤ (x9_4 : Int) := of_decide_eq_true (by first | (with_reducible assumption) | assumption)
                                                have q486 : x9_4 < ((rd_L1 t478 x6_3).length : Int) := of_decide_eq_true (by first | (with_reducible assumption) | assumption)
                                                obtain ⟨ad486, e486, hx486_0⟩ := Kd.at_int (by repeat (first | (with_reducible exact HR485_0.out) | (with_reducible refine Kd.C_alloc ?_ _) | (with_reducible refine Kd.C_drewN ?_ _) | (with_reducible refine Kd.C_drew ?_) | exact HR485_0.out)) x9_4 p486 q486
                                                cases e486
                                                replace p486 := eq_true p486
                                                replace q486 := eq_true q486
                                                have p487 : 0 ≤ (x6_3 : Int) := of_decide_eq_true (by first | (with_reducible assumption) | assumption)
                                                have q487 : x6_3 < (t478.length : Int) := of_decide_eq_true (by first | (with_reducible assumption) | assumption)
                                                obtain ⟨ad487, A487_0, c487_0, e487, hx487_0, hl487_0, hi487_0⟩ := at_L1 (Kd.S_reads' HO_3.out).2.2 x6_3 p487 q487
                                                obtain rfl : ad482 = ad487 := (by injection e487)
                                                obtain ⟨ce487, hce487, hMe487, hcc487⟩ := Kd.S_get HO_3.out [] x6_3 p487 (by first | exact q487 | exact of_decide_eq_true (by first | (with_reducible assumption) | assumption) | (have e_ := (Kd.S_reads' HO_3.out).1; omega))
                                                obtain ⟨ve487_0, rfl, ge487_0⟩ := hMe487
                                                have hv487_0 := hcc487 0 _ rfl
                                                rw [Nat.add_zero, show ((Kd.slice 3 (Kd.int .i64))).sz = 1 from rfl, Nat.mul_one] at hv487_0
                                                replace hv487_0 := Option.some.inj (hv487_0.symm.trans hx487_0)
                                                rw [hv487_0] at ge487_0
                                                have HL487_0 := Aside0.mk (show Kd.R (Kd.int .i64) 3 _ _ _ _ (rd_L1 t478 x6_3) from ge487_0)
                                                clear hv487_0 ge487_0
                                                clear hcc487 hce487
                                                have HR487_0 := Aside0.mk hi487_0
                                                have HC487_0 := Aside0.mk hl487_0
                                                clear hi487_0 hl487_0
                                                replace p487 := eq_true p487
                                                replace q487 := eq_true q487
                                                have ea_ := Option.some.inj (hx483_0.symm.trans hx487_0)
                                                injection ea_ with ea_ en_ ec_
                                                subst ea_
                                                subst ec_
                                                clear en_
                                                have p488 : 0 ≤ (x9_4 : Int) := of_decide_eq_true (by first | (with_reducible assumption) | assumption)
                                                have q488 : x9_4 < ((rd_L1 t478 x6_3).length : Int) := of_decide_eq_true (by first | (with_reducible assumption) | assumption)
                                                obtain ⟨ad488, e488, hx488_0⟩ := Kd.at_int (by repeat (first | (with_reducible exact HR487_0.out) | (with_reducible refine Kd.C_alloc ?_ _) | (with_reducible refine Kd.C_drewN ?_ _) | (with_reducible refine Kd.C_drew ?_) | exact HR487_0.out)) x9_4 p488 q488
                                                cases e488
                                                replace p488 := eq_true p488
                                                replace q488 := eq_true q488
                                                have p489 : 0 ≤ (x9_4 : Int) := of_decide_eq_true (by first | (with_reducible assumption) | assumption)
                                                have q489 : x9_4 < (t478.length : Int) := of_decide_eq_true (by first | (with_reducible assumption) | assumption)
                                                obtain ⟨ad489, A489_0, c489_0, e489, hx489_0, hl489_0, hi489_0⟩ := at_L1 (Kd.S_reads' HO_3.out).2.2 x9_4 p489 q489
                                                obtain rfl : ad482 = ad489 := (by injection e489)
                                                obtain ⟨ce489, hce489, hMe489, hcc489⟩ := Kd.S_get HO_3.out [] x9_4 p489 (by first | exact q489 | exact of_decide_eq_true (by first | (with_reducible assumption) | assumption) | (have e_ := (Kd.S_reads' HO_3.out).1; omega))
                                                obtain ⟨ve489_0, rfl, ge489_0⟩ := hMe489
                                                have hv489_0 := hcc489 0 _ rfl
                                                rw [Nat.add_zero, show ((Kd.slice 3 (Kd.int .i64))).sz = 1 from rfl, Nat.mul_one] at hv489_0
                                                replace hv489_0 := Option.some.inj (hv489_0.symm.trans hx489_0)
                                                rw [hv489_0] at ge489_0
                                                have HL489_0 := Aside0.mk (show Kd.R (Kd.int .i64) 3 _ _ _ _ (rd_L1 t478 x9_4) from ge489_0)
                                                clear hv489_0 ge489_0
                                                clear hcc489 hce489
                                                have HR489_0 := Aside0.mk hi489_0
                                                have HC489_0 := Aside0.mk hl489_0
                                                clear hi489_0 hl489_0
                                                replace p489 := eq_true p489
                                                replace q489 := eq_true q489
                                                have ea_ := Option.some.inj (hx482_0.symm.trans hx489_0)
                                                injection ea_ with ea_ en_ ec_
                                                subst ea_
                                                subst ec_
                                                clear en_
                                                have p490 : 0 ≤ (x6_3 : Int) := of_decide_eq_true (by first | (with_reducible assumption) | assumption)
                                                have q490 : x6_3 < ((rd_L1 t478 x9_4).length : Int) := of_decide_eq_true (by first | (with_reducible assumption) | assumption)
                                                obtain ⟨ad490, e490, hx490_0⟩ := Kd.at_int (by repeat (first | (with_reducible exact HR489_0.out) | (with_reducible refine Kd.C_alloc ?_ _) | (with_reducible refine Kd.C_drewN ?_ _) | (with_reducible refine Kd.C_drew ?_) | exact HR489_0.out)) x6_3 p490 q490
                                                cases e490
                                                replace p490 := eq_true p490
                                                replace q490 := eq_true q490
                                                go_wp2
                                                go_roundg k4
                                                case measure => have := HJ3.out; have := HJ11.out; have := HK3.out; have := HK4.out; omega
                                                case rel => exact ⟨(wrap64 (x7_4 + (rd (rd_L1 t478 x6_3) x9_4))), (wrap64 (x8_4 + (rd (rd_L1 t478 x9_4) x6_3))), (wrap64 (x9_4 + 1)), (by first | rfl | (simp; done) | (simp [*]; done)), (by first | rfl | (simp; done) | (simp [*]; done)), (by first | rfl | (simp; done) | (simp [*]; done)), H', ⟨by have := HJ3.out; have := HJ11.out; have := HK3.out; have := HK4.out; omega⟩, ⟨by (with_reducible repeat (first | apply Kd.S_alloc | apply Kd.S_drewN | apply Kd.S_drew)); exact HO_3.out⟩, ⟨by repeat (first | (with_reducible first | exact HB.out | apply below_alloc | apply pw_below_drewN | apply below_drew1) | exact HB.out)⟩⟩
                                              · rw [if_neg c29] at H
                                                exact absurd H (by simp)
                                            · rw [if_neg c28] at H
                                              have c28b0 : ((rd (rd_L1 t478 x6_3) x9_4) == 0) = false := beq_eq_false_iff_ne.mpr c28
                                              have c28b1 : ((rd (rd_L1 t478 x6_3) x9_4) != 0) = true := bne_iff_ne.mpr c28
                                              obtain rfl := Option.some.inj H
                                              obtain ⟨Ao31, co31, eo31⟩ := Kd.S_slice HO_3.out
                                              subst eo31
                                              have p482 : 0 ≤ (x9_4 : Int) := of_decide_eq_true (by first | (with_reducible assumption) | assumption)
                                              have q482 : x9_4 < (t478.length : Int) := of_decide_eq_true (by first | (with_reducible assumption) | assumption)
                                              obtain ⟨ad482, A482_0, c482_0, e482, hx482_0, hl482_0, hi482_0⟩ := at_L1 (Kd.S_reads' HO_3.out).2.2 x9_4 p482 q482
                                              cases e482
                                              obtain ⟨ce482, hce482, hMe482, hcc482⟩ := Kd.S_get HO_3.out [] x9_4 p482 (by first | exact q482 | exact of_decide_eq_true (by first | (with_reducible assumption) | assumption) | (have e_ := (Kd.S_reads' HO_3.out).1; omega))
                                              obtain ⟨ve482_0, rfl, ge482_0⟩ := hMe482
                                              have hv482_0 := hcc482 0 _ rfl
                                              rw [Nat.add_zero, show ((Kd.slice 3 (Kd.int .i64))).sz = 1 from rfl, Nat.mul_one] at hv482_0
                                              replace hv482_0 := Option.some.inj (hv482_0.symm.trans hx482_0)
                                              rw [hv482_0] at ge482_0
                                              have HL482_0 := Aside0.mk (show Kd.R (Kd.int .i64) 3 _ _ _ _ (rd_L1 t478 x9_4) from ge482_0)
                                              clear hv482_0 ge482_0
                                              clear hcc482 hce482
                                              have HR482_0 := Aside0.mk hi482_0
                                              have HC482_0 := Aside0.mk hl482_0
                                              clear hi482_0 hl482_0
                                              replace p482 := eq_true p482
                                              replace q482 := eq_true q482
                                              have p483 : 0 ≤ (x6_3 : Int) := of_decide_eq_true (by first | (with_reducible assumption) | assumption)
                                              have q483 : x6_3 < (t478.length : Int) := of_decide_eq_true (by first | (with_reducible assumption) | assumption)
                                              obtain ⟨ad483, A483_0, c483_0, e483, hx483_0, hl483_0, hi483_0⟩ := at_L1 (Kd.S_reads' HO_3.out).2.2 x6_3 p483 q483
                                              obtain rfl : ad482 = ad483 := (by injection e483)
                                              obtain ⟨ce483, hce483, hMe483, hcc483⟩ := Kd.S_get HO_3.out [] x6_3 p483 (by first | exact q483 | exact of_decide_eq_true (by first | (with_reducible assumption) | assumption) | (have e_ := (Kd.S_reads' HO_3.out).1; omega))
                                              obtain ⟨ve483_0, rfl, ge483_0⟩ := hMe483
                                              have hv483_0 := hcc483 0 _ rfl
                                              rw [Nat.add_zero, show ((Kd.slice 3 (Kd.int .i64))).sz = 1 from rfl, Nat.mul_one] at hv483_0
                                              replace hv483_0 := Option.some.inj (hv483_0.symm.trans hx483_0)
                                              rw [hv483_0] at ge483_0
                                              have HL483_0 := Aside0.mk (show Kd.R (Kd.int .i64) 3 _ _ _ _ (rd_L1 t478 x6_3) from ge483_0)
                                              clear hv483_0 ge483_0
                                              clear hcc483 hce483
                                              have HR483_0 := Aside0.mk hi483_0
                                              have HC483_0 := Aside0.mk hl483_0
                                              clear hi483_0 hl483_0
                                              replace p483 := eq_true p483
                                              replace q483 := eq_true q483
                                              have p484 : 0 ≤ (x9_4 : Int) := of_decide_eq_true (by first | (with_reducible assumption) | assumption)
                                              have q484 : x9_4 < ((rd_L1 t478 x6_3).length : Int) := of_decide_eq_true (by first | (with_reducible assumption) | assumption)
                                              obtain ⟨ad484, e484, hx484_0⟩ := Kd.at_int (by repeat (first | (with_reducible exact HR483_0.out) | (with_reducible refine Kd.C_alloc ?_ _) | (with_reducible refine Kd.C_drewN ?_ _) | (with_reducible refine Kd.C_drew ?_) | exact HR483_0.out)) x9_4 p484 q484
                                              cases e484
                                              replace p484 := eq_true p484
                                              replace q484 := eq_true q484
                                              have p485 : 0 ≤ (x6_3 : Int) := of_decide_eq_true (by first | (with_reducible assumption) | assumption)
                                              have q485 : x6_3 < (t478.length : Int) := of_decide_eq_true (by first | (with_reducible assumption) | assumption)
                                              obtain ⟨ad485, A485_0, c485_0, e485, hx485_0, hl485_0, hi485_0⟩ := at_L1 (Kd.S_reads' HO_3.out).2.2 x6_3 p485 q485
                                              obtain rfl : ad482 = ad485 := (by injection e485)
                                              obtain ⟨ce485, hce485, hMe485, hcc485⟩ := Kd.S_get HO_3.out [] x6_3 p485 (by first | exact q485 | exact of_decide_eq_true (by first | (with_reducible assumption) | assumption) | (have e_ := (Kd.S_reads' HO_3.out).1; omega))
                                              obtain ⟨ve485_0, rfl, ge485_0⟩ := hMe485
                                              have hv485_0 := hcc485 0 _ rfl
                                              rw [Nat.add_zero, show ((Kd.slice 3 (Kd.int .i64))).sz = 1 from rfl, Nat.mul_one] at hv485_0
                                              replace hv485_0 := Option.some.inj (hv485_0.symm.trans hx485_0)
                                              rw [hv485_0] at ge485_0
                                              have HL485_0 := Aside0.mk (show Kd.R (Kd.int .i64) 3 _ _ _ _ (rd_L1 t478 x6_3) from ge485_0)
                                              clear hv485_0 ge485_0
                                              clear hcc485 hce485
                                              have HR485_0 := Aside0.mk hi485_0
                                              have HC485_0 := Aside0.mk hl485_0
                                              clear hi485_0 hl485_0
                                              replace p485 := eq_true p485
                                              replace q485 := eq_true q485
                                              have ea_ := Option.some.inj (hx483_0.symm.trans hx485_0)
                                              injection ea_ with ea_ en_ ec_
                                              subst ea_
                                              subst ec_
                                              clear en_
                                              have p486 : 0 ≤ (x9_4 : Int) := of_decide_eq_true (by first | (with_reducible assumption) | assumption)
                                              have q486 : x9_4 < ((rd_L1 t478 x6_3).length : Int) := of_decide_eq_true (by first | (with_reducible assumption) | assumption)
                                              obtain ⟨ad486, e486, hx486_0⟩ := Kd.at_int (by repeat (first | (with_reducible exact HR485_0.out) | (with_reducible refine Kd.C_alloc ?_ _) | (with_reducible refine Kd.C_drewN ?_ _) | (with_reducible refine Kd.C_drew ?_) | exact HR485_0.out)) x9_4 p486 q486
                                              cases e486
                                              replace p486 := eq_true p486
                                              replace q486 := eq_true q486
                                              go_wp2
                                              go_ret
                                              exact ⟨by first | rfl | (simp [errW_none, errW_some] <;> rfl) | (simp [*, errW_none, errW_some] <;> rfl), by repeat (first | (with_reducible first | exact HB.out | apply below_alloc | apply pw_below_drewN | apply below_drew1) | exact HB.out)⟩
                                          · rw [if_neg c27] at H
                                            have c27b0 : (x6_3 == x9_4) = false := beq_eq_false_iff_ne.mpr c27
                                            have c27b1 : (x6_3 != x9_4) = true := bne_iff_ne.mpr c27
                                            by_cases c32 : x6_3 < ((rd_L1 t478 x9_4).length : Int)
                                            · rw [if_pos c32] at H
                                              have c32b0 : decide (x6_3 < ((rd_L1 t478 x9_4).length : Int)) = true := decide_eq_true c32
                                              clear c32
                                              have H' := Aside0.mk H
                                              clear H
                                              obtain ⟨Ao33, co33, eo33⟩ := Kd.S_slice HO_3.out
                                              subst eo33
                                              have p482 : 0 ≤ (x9_4 : Int) := of_decide_eq_true (by first | (with_reducible assumption) | assumption)
                                              have q482 : x9_4 < (t478.length : Int) := of_decide_eq_true (by first | (with_reducible assumption) | assumption)
                                              obtain ⟨ad482, A482_0, c482_0, e482, hx482_0, hl482_0, hi482_0⟩ := at_L1 (Kd.S_reads' HO_3.out).2.2 x9_4 p482 q482
                                              cases e482
                                              obtain ⟨ce482, hce482, hMe482, hcc482⟩ := Kd.S_get HO_3.out [] x9_4 p482 (by first | exact q482 | exact of_decide_eq_true (by first | (with_reducible assumption) | assumption) | (have e_ := (Kd.S_reads' HO_3.out).1; omega))
                                              obtain ⟨ve482_0, rfl, ge482_0⟩ := hMe482
                                              have hv482_0 := hcc482 0 _ rfl
                                              rw [Nat.add_zero, show ((Kd.slice 3 (Kd.int .i64))).sz = 1 from rfl, Nat.mul_one] at hv482_0
                                              replace hv482_0 := Option.some.inj (hv482_0.symm.trans hx482_0)
                                              rw [hv482_0] at ge482_0
                                              have HL482_0 := Aside0.mk (show Kd.R (Kd.int .i64) 3 _ _ _ _ (rd_L1 t478 x9_4) from ge482_0)
                                              clear hv482_0 ge482_0
                                              clear hcc482 hce482
                                              have HR482_0 := Aside0.mk hi482_0
                                              have HC482_0 := Aside0.mk hl482_0
                                              clear hi482_0 hl482_0
                                              replace p482 := eq_true p482
                                              replace q482 := eq_true q482
                                              have p483 : 0 ≤ (x6_3 : Int) := of_decide_eq_true (by first | (with_reducible assumption) | assumption)
                                              have q483 : x6_3 < (t478.length : Int) := of_decide_eq_true (by first | (with_reducible assumption) | assumption)
                                              obtain ⟨ad483, A483_0, c483_0, e483, hx483_0, hl483_0, hi483_0⟩ := at_L1 (Kd.S_reads' HO_3.out).2.2 x6_3 p483 q483
                                              obtain rfl : ad482 = ad483 := (by injection e483)
                                              obtain ⟨ce483, hce483, hMe483, hcc483⟩ := Kd.S_get HO_3.out [] x6_3 p483 (by first | exact q483 | exact of_decide_eq_true (by first | (with_reducible assumption) | assumption) | (have e_ := (Kd.S_reads' HO_3.out).1; omega))
                                              obtain ⟨ve483_0, rfl, ge483_0⟩ := hMe483
                                              have hv483_0 := hcc483 0 _ rfl
                                              rw [Nat.add_zero, show ((Kd.slice 3 (Kd.int .i64))).sz = 1 from rfl, Nat.mul_one] at hv483_0
                                              replace hv483_0 := Option.some.inj (hv483_0.symm.trans hx483_0)
                                              rw [hv483_0] at ge483_0
                                              have HL483_0 := Aside0.mk (show Kd.R (Kd.int .i64) 3 _ _ _ _ (rd_L1 t478 x6_3) from ge483_0)
                                              clear hv483_0 ge483_0
                                              clear hcc483 hce483
                                              have HR483_0 := Aside0.mk hi483_0
                                              have HC483_0 := Aside0.mk hl483_0
                                              clear hi483_0 hl483_0
                                              replace p483 := eq_true p483
                                              replace q483 := eq_true q483
                                              have p484 : 0 ≤ (x9_4 : Int) := of_decide_eq_true (by first | (with_reducible assumption) | assumption)
                                              have q484 : x9_4 < ((rd_L1 t478 x6_3).length : Int) := of_decide_eq_true (by first | (with_reducible assumption) | assumption)
                                              obtain ⟨ad484, e484, hx484_0⟩ := Kd.at_int (by repeat (first | (with_reducible exact HR483_0.out) | (with_reducible refine Kd.C_alloc ?_ _) | (with_reducible refine Kd.C_drewN ?_ _) | (with_reducible refine Kd.C_drew ?_) | exact HR483_0.out)) x9_4 p484 q484
                                              cases e484
                                              replace p484 := eq_true p484
                                              replace q484 := eq_true q484
                                              have p491 : 0 ≤ (x6_3 : Int) := of_decide_eq_true (by first | (with_reducible assumption) | assumption)
                                              have q491 : x6_3 < (t478.length : Int) := of_decide_eq_true (by first | (with_reducible assumption) | assumption)
                                              obtain ⟨ad491, A491_0, c491_0, e491, hx491_0, hl491_0, hi491_0⟩ := at_L1 (Kd.S_reads' HO_3.out).2.2 x6_3 p491 q491
                                              obtain rfl : ad482 = ad491 := (by injection e491)
                                              obtain ⟨ce491, hce491, hMe491, hcc491⟩ := Kd.S_get HO_3.out [] x6_3 p491 (by first | exact q491 | exact of_decide_eq_true (by first | (with_reducible assumption) | assumption) | (have e_ := (Kd.S_reads' HO_3.out).1; omega))
                                              obtain ⟨ve491_0, rfl, ge491_0⟩ := hMe491
                                              have hv491_0 := hcc491 0 _ rfl
                                              rw [Nat.add_zero, show ((Kd.slice 3 (Kd.int .i64))).sz = 1 from rfl, Nat.mul_one] at hv491_0
                                              replace hv491_0 := Option.some.inj (hv491_0.symm.trans hx491_0)
                                              rw [hv491_0] at ge491_0
                                              have HL491_0 := Aside0.mk (show Kd.R (Kd.int .i64) 3 _ _ _ _ (rd_L1 t478 x6_3) from ge491_0)
                                              clear hv491_0 ge491_0
                                              clear hcc491 hce491
                                              have HR491_0 := Aside0.mk hi491_0
                                              have HC491_0 := Aside0.mk hl491_0
                                              clear hi491_0 hl491_0
                                              replace p491 := eq_true p491
                                              replace q491 := eq_true q491
                                              have ea_ := Option.some.inj (hx483_0.symm.trans hx491_0)
                                              injection ea_ with ea_ en_ ec_
                                              subst ea_
                                              subst ec_
                                              clear en_
                                              have p492 : 0 ≤ (x9_4 : Int) := of_decide_eq_true (by first | (with_reducible assumption) | assumption)
                                              have q492 : x9_4 < ((rd_L1 t478 x6_3).length : Int) := of_decide_eq_true (by first | (with_reducible assumption) | assumption)
                                              obtain ⟨ad492, e492, hx492_0⟩ := Kd.at_int (by repeat (first | (with_reducible exact HR491_0.out) | (with_reducible refine Kd.C_alloc ?_ _) | (with_reducible refine Kd.C_drewN ?_ _) | (with_reducible refine Kd.C_drew ?_) | exact HR491_0.out)) x9_4 p492 q492
                                              cases e492
                                              replace p492 := eq_true p492
                                              replace q492 := eq_true q492
                                              have p493 : 0 ≤ (x9_4 : Int) := of_decide_eq_true (by first | (with_reducible assumption) | assumption)
                                              have q493 : x9_4 < (t478.length : Int) := of_decide_eq_true (by first | (with_reducible assumption) | assumption)
                                              obtain ⟨ad493, A493_0, c493_0, e493, hx493_0, hl493_0, hi493_0⟩ := at_L1 (Kd.S_reads' HO_3.out).2.2 x9_4 p493 q493
                                              obtain rfl : ad482 = ad493 := (by injection e493)
                                              obtain ⟨ce493, hce493, hMe493, hcc493⟩ := Kd.S_get HO_3.out [] x9_4 p493 (by first | exact q493 | exact of_decide_eq_true (by first | (with_reducible assumption) | assumption) | (have e_ := (Kd.S_reads' HO_3.out).1; omega))
                                              obtain ⟨ve493_0, rfl, ge493_0⟩ := hMe493
                                              have hv493_0 := hcc493 0 _ rfl
                                              rw [Nat.add_zero, show ((Kd.slice 3 (Kd.int .i64))).sz = 1 from rfl, Nat.mul_one] at hv493_0
                                              replace hv493_0 := Option.some.inj (hv493_0.symm.trans hx493_0)
                                              rw [hv493_0] at ge493_0
                                              have HL493_0 := Aside0.mk (show Kd.R (Kd.int .i64) 3 _ _ _ _ (rd_L1 t478 x9_4) from ge493_0)
                                              clear hv493_0 ge493_0
                                              clear hcc493 hce493
                                              have HR493_0 := Aside0.mk hi493_0
                                              have HC493_0 := Aside0.mk hl493_0
                                              clear hi493_0 hl493_0
                                              replace p493 := eq_true p493
                                              replace q493 := eq_true q493
                                              have ea_ := Option.some.inj (hx482_0.symm.trans hx493_0)
                                              injection ea_ with ea_ en_ ec_
                                              subst ea_
                                              subst ec_
                                              clear en_
                                              have p494 : 0 ≤ (x6_3 : Int) := of_decide_eq_true (by first | (with_reducible assumption) | assumption)
                                              have q494 : x6_3 < ((rd_L1 t478 x9_4).length : Int) := of_decide_eq_true (by first | (with_reducible assumption) | assumption)
                                              obtain ⟨ad494, e494, hx494_0⟩ := Kd.at_int (by repeat (first | (with_reducible exact HR493_0.out) | (with_reducible refine Kd.C_alloc ?_ _) | (with_reducible refine Kd.C_drewN ?_ _) | (with_reducible refine Kd.C_drew ?_) | exact HR493_0.out)) x6_3 p494 q494
                                              cases e494
                                              replace p494 := eq_true p494
                                              replace q494 := eq_true q494
                                              go_wp2
                                              go_roundg k4
                                              case measure => have := HJ3.out; have := HJ11.out; have := HK3.out; have := HK4.out; omega
                                              case rel => exact ⟨(wrap64 (x7_4 + (rd (rd_L1 t478 x6_3) x9_4))), (wrap64 (x8_4 + (rd (rd_L1 t478 x9_4) x6_3))), (wrap64 (x9_4 + 1)), (by first | rfl | (simp; done) | (simp [*]; done)), (by first | rfl | (simp; done) | (simp [*]; done)), (by first | rfl | (simp; done) | (simp [*]; done)), H', ⟨by have := HJ3.out; have := HJ11.out; have := HK3.out; have := HK4.out; omega⟩, ⟨by (with_reducible repeat (first | apply Kd.S_alloc | apply Kd.S_drewN | apply Kd.S_drew)); exact HO_3.out⟩, ⟨by repeat (first | (with_reducible first | exact HB.out | apply below_alloc | apply pw_below_drewN | apply below_drew1) | exact HB.out)⟩⟩
                                            · rw [if_neg c32] at H
                                              exact absurd H (by simp)
                                      · rw [if_neg c24] at H
                                        exact absurd H (by simp)
                                    · rw [if_neg c23] at H
                                      exact absurd H (by simp)
                                  · rw [if_neg c22] at H
                                    exact absurd H (by simp)
                                · rw [if_neg c21] at H
                                  have c21b0 : (((rd_L1 t478 x9_4).length : Int) == (l0.length : Int)) = false := beq_eq_false_iff_ne.mpr c21
                                  have c21b1 : (((rd_L1 t478 x9_4).length : Int) != (l0.length : Int)) = true := bne_iff_ne.mpr c21
                                  have c21b2 : ((rd_L1 t478 x9_4).length == l0.length) = false := by first | simpa using c21 | (simp at c21 ⊢; omega)
                                  obtain rfl := Option.some.inj H
                                  obtain ⟨Ao34, co34, eo34⟩ := Kd.S_slice HO_3.out
                                  subst eo34
                                  have p482 : 0 ≤ (x9_4 : Int) := of_decide_eq_true (by first | (with_reducible assumption) | assumption)
                                  have q482 : x9_4 < (t478.length : Int) := of_decide_eq_true (by first | (with_reducible assumption) | assumption)
                                  obtain ⟨ad482, A482_0, c482_0, e482, hx482_0, hl482_0, hi482_0⟩ := at_L1 (Kd.S_reads' HO_3.out).2.2 x9_4 p482 q482
                                  cases e482
                                  obtain ⟨ce482, hce482, hMe482, hcc482⟩ := Kd.S_get HO_3.out [] x9_4 p482 (by first | exact q482 | exact of_decide_eq_true (by first | (with_reducible assumption) | assumption) | (have e_ := (Kd.S_reads' HO_3.out).1; omega))
                                  obtain ⟨ve482_0, rfl, ge482_0⟩ := hMe482
                                  have hv482_0 := hcc482 0 _ rfl
                                  rw [Nat.add_zero, show ((Kd.slice 3 (Kd.int .i64))).sz = 1 from rfl, Nat.mul_one] at hv482_0
                                  replace hv482_0 := Option.some.inj (hv482_0.symm.trans hx482_0)
                                  rw [hv482_0] at ge482_0
                                  have HL482_0 := Aside0.mk (show Kd.R (Kd.int .i64) 3 _ _ _ _ (rd_L1 t478 x9_4) from ge482_0)
                                  clear hv482_0 ge482_0
                                  clear hcc482 hce482
                                  have HR482_0 := Aside0.mk hi482_0
                                  have HC482_0 := Aside0.mk hl482_0
                                  clear hi482_0 hl482_0
                                  replace p482 := eq_true p482
                                  replace q482 := eq_true q482
                                  go_wp2
                                  go_ret
                                  exact ⟨by first | rfl | (simp [errW_none, errW_some] <;> rfl) | (simp [*, errW_none, errW_some] <;> rfl), by repeat (first | (with_reducible first | exact HB.out | apply below_alloc | apply pw_below_drewN | apply below_drew1) | exact HB.out)⟩
                              · rw [if_neg c20] at H
                                exact absurd H (by simp)
                            · rw [if_neg c19] at H
                              exact absurd H (by simp)
                          · rw [if_neg c18] at H
                            have c18b0 : decide (x9_4 < (l0.length : Int)) = false := decide_eq_false c18
                            clear c18
                            by_cases c35 : x7_4 = (wrap64 ((l0.length : Int) - 1))
                            · rw [if_pos c35] at H
                              have c35b0 : (x7_4 == (wrap64 ((l0.length : Int) - 1))) = true := beq_iff_eq.mpr c35
                              have c35b1 : (x7_4 != (wrap64 ((l0.length : Int) - 1))) = false := bne_eq_false_iff_eq.mpr c35
                              clear c35
                              by_cases c36 : x8_4 = (wrap64 ((l0.length : Int) - 1))
                              · rw [if_pos c36] at H
                                have c36b0 : (x8_4 == (wrap64 ((l0.length : Int) - 1))) = true := beq_iff_eq.mpr c36
                                have c36b1 : (x8_4 != (wrap64 ((l0.length : Int) - 1))) = false := bne_eq_false_iff_eq.mpr c36
                                clear c36
                                have H' := Aside0.mk H
                                clear H
                                go_wp2
                                go_roundg k4
                                case measure => have := HJ3.out; have := HJ11.out; have := HK3.out; have := HK4.out; omega
                                case rel => exact ⟨(wrap64 (x6_3 + 1)), (by first | rfl | (simp; done) | (simp [*]; done)), H', ⟨by have := HJ3.out; have := HJ11.out; have := HK3.out; have := HK4.out; omega⟩, ⟨by (with_reducible repeat (first | apply Kd.S_alloc | apply Kd.S_drewN | apply Kd.S_drew)); exact HO_3.out⟩, ⟨by repeat (first | (with_reducible first | exact HB.out | apply below_alloc | apply pw_below_drewN | apply below_drew1) | exact HB.out)⟩⟩
                              · rw [if_neg c36] at H
                                have c36b0 : (x8_4 == (wrap64 ((l0.length : Int) - 1))) = false := beq_eq_false_iff_ne.mpr c36
                                have c36b1 : (x8_4 != (wrap64 ((l0.length : Int) - 1))) = true := bne_iff_ne.mpr c36
                                obtain rfl := Option.some.inj H
                                go_wp2
                                go_ret
                                exact ⟨by first | rfl | (simp [errW_none, errW_some] <;> rfl) | (simp [*, errW_none, errW_some] <;> rfl), by repeat (first | (with_reducible first | exact HB.out | apply below_alloc | apply pw_below_drewN | apply below_drew1) | exact HB.out)⟩
                            · rw [if_neg c35] at H
                              have c35b0 : (x7_4 == (wrap64 ((l0.length : Int) - 1))) = false := beq_eq_false_iff_ne.mpr c35
                              have c35b1 : (x7_4 != (wrap64 ((l0.length : Int) - 1))) = true := bne_iff_ne.mpr c35
                              obtain rfl := Option.some.inj H
                              go_wp2
                              go_ret
                              exact ⟨by first | rfl | (simp [errW_none, errW_some] <;> rfl) | (simp [*, errW_none, errW_some] <;> rfl), by repeat (first | (with_reducible first | exact HB.out | apply below_alloc | apply pw_below_drewN | apply below_drew1) | exact HB.out)⟩
                    · rw [if_neg c17] at H
                      have c17b0 : decide (x6_3 < (l0.length : Int)) = false := decide_eq_false c17
                      clear c17
                      obtain rfl := Option.some.inj H
                      go_wp2
                      go_ret
                      exact ⟨by first | rfl | (simp [errW_none, errW_some] <;> rfl) | (simp [*, errW_none, errW_some] <;> rfl), by repeat (first | (with_reducible first | exact HB.out | apply below_alloc | apply pw_below_drewN | apply below_drew1) | exact HB.out)⟩
  · replace c3 := Bool.eq_false_iff.mpr c3
    subst c3
    have H1 : (some false) = some r := by rw [if_neg (show ¬ (false = true) by decide)] at H; exact H
    clear H
    have H := H1
    clear H1
    obtain rfl := Option.some.inj H
    go_enter Try.func10, Try.ntmps10
    go_wp2_with (first | ((with_reducible refine gate_callee (f := 13) rfl ?_); refine goesL_ (some 10) rfl rfl Try.func13 (by kernel_rfl) rfl #[] rfl (by (try simp only [List.map_toArray, List.map_cons, List.map_nil]); first | done | rfl | (simp only [List.length_drop, List.length_take]; rfl)) ?_; (with_reducible refine (salchowlaw36_awake.calls k  false _ A2.out).mono ?_); rintro e w37 ⟨rfl, hb⟩; refine ⟨_, rfl, ?_⟩; have n0_ := Aside0.mk (below_step (by repeat (first | (with_reducible first | exact HB.out | apply below_alloc | apply pw_below_drewN | apply below_drew1) | exact HB.out)) hb); clear HB; have HB := n0_; clear n0_; (try clear hb); (try clear hb2); (try clear hk); (try clear hi)))
    go_ret
    exact ⟨by first | rfl | (simp [errW_none, errW_some] <;> rfl) | (simp [*, errW_none, errW_some] <;> rfl), by repeat (first | (with_reducible first | exact HB.out | apply below_alloc | apply pw_below_drewN | apply below_drew1) | exact HB.out)⟩

-- NOT PRINTED: function 33 (rotation_Shortest)

end Go.Proofs.Ytaodpgblleiiaaa.P
