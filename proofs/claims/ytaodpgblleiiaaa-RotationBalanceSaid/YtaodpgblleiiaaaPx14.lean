-- out of a program (drive.sh), by way of the translation's print
import Derived.Test.YtaodpgblleiiaaaPx0
import Derived.Test.YtaodpgblleiiaaaPx1
import Derived.Test.YtaodpgblleiiaaaPx4
import Derived.Test.YtaodpgblleiiaaaPx12
namespace Go.Proofs.Ytaodpgblleiiaaa.P
open Go.RowKit Go.Proofs.YtaodpgblleiiaaaW.PrintWords Go.Proofs.YtaodpgblleiiaaaW.PrintLast Go.Proofs.YtaodpgblleiiaaaW.PrintMore
attribute [local go_sem] max2_int min2_int max_two min_two max_three min_three max_four min_four   -- for this text's walks alone
set_option linter.unusedVariables false
set_option linter.unusedSimpArgs false

/-! ### salchowlaw36_RotationBalance: function 9 -/
mutual
def salchowlaw36_RotationBalance.j0 : Nat → Int → Int → Int → Bool → Option (Bool)
  | 0, _, _, _, _ => none
  | k + 1, x0, x1, x2, x37 => if x37 = true then (some true) else ((rotation_Cyclic.f k x0).bind fun bt453 => ((rotation_Carry.f k bt453.1).bind fun bt457 => (if bt453.2 = 0 then (salchowlaw36_RotationBalance.j1 k x0 x1 x2 bt457.1 (bt457.2 != 0)) else (salchowlaw36_RotationBalance.j1 k x0 x1 x2 bt457.1 true))))
def salchowlaw36_RotationBalance.j1 : Nat → Int → Int → Int → List (List Int) → Bool → Option (Bool)
  | 0, _, _, _, _, _ => none
  | k + 1, x0, x1, x2, x9, x53 => if x53 = true then (some false) else (if x0 = 0 then (none) else (if x2 = (Int.tmod (wrap64 (x1 + 1)) x0) then (salchowlaw36_RotationBalance.j2 k x0 x1 x2 x9 (wrap64 (x0 - 1))) else (salchowlaw36_RotationBalance.j2 k x0 x1 x2 x9 0)))
def salchowlaw36_RotationBalance.j2 : Nat → Int → Int → Int → List (List Int) → Int → Option (Bool)
  | 0, _, _, _, _, _ => none
  | k + 1, x0, x1, x2, x9, x11 => if 0 ≤ x1 then (if x1 < (x9.length : Int) then (if 0 ≤ x2 then (if x2 < ((rd_L1 x9 x1).length : Int) then (if (rd (rd_L1 x9 x1) x2) = x11 then ((rotation_Balanced.f k x0).bind fun bt463 => (if bt463.2 = 0 then ((rotation_Carry.f k bt463.1).bind fun bt467 => (if bt467.2 = 0 then (salchowlaw36_RotationBalance.j3 k x1 x2 bt467.1 ((Int.tmod x0 2) == 1)) else (salchowlaw36_RotationBalance.j3 k x1 x2 bt467.1 true))) else (if bt463.2 = 8 then (some ((Int.tmod x0 2) == 1)) else (some false)))) else (some false)) else (none)) else (none)) else (none)) else (none)
def salchowlaw36_RotationBalance.j3 : Nat → Int → Int → List (List Int) → Bool → Option (Bool)
  | 0, _, _, _, _ => none
  | k + 1, x1, x2, x9, x96 => if x96 = true then (some false) else (if x1 = x2 then (if 0 ≤ x1 then (if x1 < (x9.length : Int) then (if 0 ≤ x2 then (if x2 < ((rd_L1 x9 x1).length : Int) then (some ((rd (rd_L1 x9 x1) x2) == 0)) else (none)) else (none)) else (none)) else (none)) else (if 0 ≤ x1 then (if x1 < (x9.length : Int) then (if 0 ≤ x2 then (if x2 < ((rd_L1 x9 x1).length : Int) then (some ((rd (rd_L1 x9 x1) x2) == 1)) else (none)) else (none)) else (none)) else (none)))
end
def salchowlaw36_RotationBalance.f (k : Nat) (a0 : Int) (a1 : Int) (a2 : Int) : Option (Bool) := (salchowlaw36_awake.f k).bind fun t452 => (if t452 = true then (if a0 < 1 then (salchowlaw36_RotationBalance.j0 k a0 a1 a2 true) else (if a0 > 24 then (salchowlaw36_RotationBalance.j0 k a0 a1 a2 true) else (if a1 < 0 then (salchowlaw36_RotationBalance.j0 k a0 a1 a2 true) else (if a1 ≥ a0 then (salchowlaw36_RotationBalance.j0 k a0 a1 a2 true) else (if a2 < 0 then (salchowlaw36_RotationBalance.j0 k a0 a1 a2 true) else (salchowlaw36_RotationBalance.j0 k a0 a1 a2 (decide (a2 ≥ a0)))))))) else (some false))
theorem salchowlaw36_RotationBalance.mono_l : ∀ k, (∀ y0 y1 y2 y3, LeO (salchowlaw36_RotationBalance.j0 k y0 y1 y2 y3) (salchowlaw36_RotationBalance.j0 (k + 1) y0 y1 y2 y3)) ∧ (∀ y0 y1 y2 y3 y4, LeO (salchowlaw36_RotationBalance.j1 k y0 y1 y2 y3 y4) (salchowlaw36_RotationBalance.j1 (k + 1) y0 y1 y2 y3 y4)) ∧ (∀ y0 y1 y2 y3 y4, LeO (salchowlaw36_RotationBalance.j2 k y0 y1 y2 y3 y4) (salchowlaw36_RotationBalance.j2 (k + 1) y0 y1 y2 y3 y4)) ∧ (∀ y0 y1 y2 y3, LeO (salchowlaw36_RotationBalance.j3 k y0 y1 y2 y3) (salchowlaw36_RotationBalance.j3 (k + 1) y0 y1 y2 y3))
  | 0 => ⟨fun _ _ _ _ r h => by simp [salchowlaw36_RotationBalance.j0] at h, fun _ _ _ _ _ r h => by simp [salchowlaw36_RotationBalance.j1] at h, fun _ _ _ _ _ r h => by simp [salchowlaw36_RotationBalance.j2] at h, fun _ _ _ _ r h => by simp [salchowlaw36_RotationBalance.j3] at h⟩
  | k + 1 => by
    obtain ⟨ih0, ih1, ih2, ih3⟩ := salchowlaw36_RotationBalance.mono_l k
    refine ⟨?_, ?_, ?_, ?_⟩
    · intro y0 y1 y2 y3
      unfold salchowlaw36_RotationBalance.j0
      repeat' first
      | (with_reducible exact ih0 _ _ _ _)
      | (with_reducible exact ih1 _ _ _ _ _)
      | (with_reducible exact ih2 _ _ _ _ _)
      | (with_reducible exact ih3 _ _ _ _)
      | (with_reducible exact rotation_Balanced.mono _ _)
      | (with_reducible exact rotation_Carry.mono _ _)
      | (with_reducible exact rotation_Cyclic.mono _ _)
      | (with_reducible exact salchowlaw36_awake.mono _)
      | (with_reducible exact LeO.refl _)
      | (with_reducible exact LeO.none _)
      | (with_reducible refine LeO.ite ?_ ?_)
      | (with_reducible refine LeO.bind ?_ (fun _ => ?_))
      | exact ih0 _ _ _ _
      | exact ih1 _ _ _ _ _
      | exact ih2 _ _ _ _ _
      | exact ih3 _ _ _ _
      | exact rotation_Balanced.mono _ _
      | exact rotation_Carry.mono _ _
      | exact rotation_Cyclic.mono _ _
      | exact salchowlaw36_awake.mono _
      | exact LeO.none _
      | refine LeO.ite ?_ ?_
      | refine LeO.bind ?_ (fun _ => ?_)
    · intro y0 y1 y2 y3 y4
      unfold salchowlaw36_RotationBalance.j1
      repeat' first
      | (with_reducible exact ih0 _ _ _ _)
      | (with_reducible exact ih1 _ _ _ _ _)
      | (with_reducible exact ih2 _ _ _ _ _)
      | (with_reducible exact ih3 _ _ _ _)
      | (with_reducible exact rotation_Balanced.mono _ _)
      | (with_reducible exact rotation_Carry.mono _ _)
      | (with_reducible exact rotation_Cyclic.mono _ _)
      | (with_reducible exact salchowlaw36_awake.mono _)
      | (with_reducible exact LeO.refl _)
      | (with_reducible exact LeO.none _)
      | (with_reducible refine LeO.ite ?_ ?_)
      | (with_reducible refine LeO.bind ?_ (fun _ => ?_))
      | exact ih0 _ _ _ _
      | exact ih1 _ _ _ _ _
      | exact ih2 _ _ _ _ _
      | exact ih3 _ _ _ _
      | exact rotation_Balanced.mono _ _
      | exact rotation_Carry.mono _ _
      | exact rotation_Cyclic.mono _ _
      | exact salchowlaw36_awake.mono _
      | exact LeO.none _
      | refine LeO.ite ?_ ?_
      | refine LeO.bind ?_ (fun _ => ?_)
    · intro y0 y1 y2 y3 y4
      unfold salchowlaw36_RotationBalance.j2
      repeat' first
      | (with_reducible exact ih0 _ _ _ _)
      | (with_reducible exact ih1 _ _ _ _ _)
      | (with_reducible exact ih2 _ _ _ _ _)
      | (with_reducible exact ih3 _ _ _ _)
      | (with_reducible exact rotation_Balanced.mono _ _)
      | (with_reducible exact rotation_Carry.mono _ _)
      | (with_reducible exact rotation_Cyclic.mono _ _)
      | (with_reducible exact salchowlaw36_awake.mono _)
      | (with_reducible exact LeO.refl _)
      | (with_reducible exact LeO.none _)
      | (with_reducible refine LeO.ite ?_ ?_)
      | (with_reducible refine LeO.bind ?_ (fun _ => ?_))
      | exact ih0 _ _ _ _
      | exact ih1 _ _ _ _ _
      | exact ih2 _ _ _ _ _
      | exact ih3 _ _ _ _
      | exact rotation_Balanced.mono _ _
      | exact rotation_Carry.mono _ _
      | exact rotation_Cyclic.mono _ _
      | exact salchowlaw36_awake.mono _
      | exact LeO.none _
      | refine LeO.ite ?_ ?_
      | refine LeO.bind ?_ (fun _ => ?_)
    · intro y0 y1 y2 y3
      unfold salchowlaw36_RotationBalance.j3
      repeat' first
      | (with_reducible exact ih0 _ _ _ _)
      | (with_reducible exact ih1 _ _ _ _ _)
      | (with_reducible exact ih2 _ _ _ _ _)
      | (with_reducible exact ih3 _ _ _ _)
      | (with_reducible exact rotation_Balanced.mono _ _)
      | (with_reducible exact rotation_Carry.mono _ _)
      | (with_reducible exact rotation_Cyclic.mono _ _)
      | (with_reducible exact salchowlaw36_awake.mono _)
      | (with_reducible exact LeO.refl _)
      | (with_reducible exact LeO.none _)
      | (with_reducible refine LeO.ite ?_ ?_)
      | (with_reducible refine LeO.bind ?_ (fun _ => ?_))
      | exact ih0 _ _ _ _
      | exact ih1 _ _ _ _ _
      | exact ih2 _ _ _ _ _
      | exact ih3 _ _ _ _
      | exact rotation_Balanced.mono _ _
      | exact rotation_Carry.mono _ _
      | exact rotation_Cyclic.mono _ _
      | exact salchowlaw36_awake.mono _
      | exact LeO.none _
      | refine LeO.ite ?_ ?_
      | refine LeO.bind ?_ (fun _ => ?_)
theorem salchowlaw36_RotationBalance.mono : ∀ a0 a1 a2 k, LeO (salchowlaw36_RotationBalance.f k a0 a1 a2) (salchowlaw36_RotationBalance.f (k + 1) a0 a1 a2) := by
  intro a0 a1 a2 k
  obtain ⟨ih0, ih1, ih2, ih3⟩ := salchowlaw36_RotationBalance.mono_l k
  unfold salchowlaw36_RotationBalance.f
  repeat' first
      | (with_reducible exact ih0 _ _ _ _)
      | (with_reducible exact ih1 _ _ _ _ _)
      | (with_reducible exact ih2 _ _ _ _ _)
      | (with_reducible exact ih3 _ _ _ _)
      | (with_reducible exact rotation_Balanced.mono _ _)
      | (with_reducible exact rotation_Carry.mono _ _)
      | (with_reducible exact rotation_Cyclic.mono _ _)
      | (with_reducible exact salchowlaw36_awake.mono _)
      | (with_reducible exact LeO.refl _)
      | (with_reducible exact LeO.none _)
      | (with_reducible refine LeO.ite ?_ ?_)
      | (with_reducible refine LeO.bind ?_ (fun _ => ?_))
      | exact ih0 _ _ _ _
      | exact ih1 _ _ _ _ _
      | exact ih2 _ _ _ _ _
      | exact ih3 _ _ _ _
      | exact rotation_Balanced.mono _ _
      | exact rotation_Carry.mono _ _
      | exact rotation_Cyclic.mono _ _
      | exact salchowlaw36_awake.mono _
      | exact LeO.none _
      | refine LeO.ite ?_ ?_
      | refine LeO.bind ?_ (fun _ => ?_)
set_option maxHeartbeats 8000000 in
set_option maxRecDepth 100000 in
theorem salchowlaw36_RotationBalance.calls (k : Nat) (a0 : Int) (a1 : Int) (a2 : Int) (r : Bool) (w : World) (h : salchowlaw36_RotationBalance.f k a0 a1 a2 = some r) :
    Calls Try.prog 9 #[.int .i64 a0, .int .i64 a1, .int .i64 a2] w fun e w' => e = .returned (.bool r) ∧ Below w.heap.size w w' := by
  have HB := Aside0.mk (Below.refl w.heap.size w)
  have H : ((salchowlaw36_awake.f k).bind fun t452 => (if t452 = true then (if a0 < 1 then (salchowlaw36_RotationBalance.j0 k a0 a1 a2 true) else (if a0 > 24 then (salchowlaw36_RotationBalance.j0 k a0 a1 a2 true) else (if a1 < 0 then (salchowlaw36_RotationBalance.j0 k a0 a1 a2 true) else (if a1 ≥ a0 then (salchowlaw36_RotationBalance.j0 k a0 a1 a2 true) else (if a2 < 0 then (salchowlaw36_RotationBalance.j0 k a0 a1 a2 true) else (salchowlaw36_RotationBalance.j0 k a0 a1 a2 (decide (a2 ≥ a0)))))))) else (some false))) = some r := h
  clear h
  replace H := Option.bind_eq_some_iff.mp H
  obtain ⟨t452, A40, H⟩ := H
  replace H : (if t452 = true then (if a0 < 1 then (salchowlaw36_RotationBalance.j0 k a0 a1 a2 true) else (if a0 > 24 then (salchowlaw36_RotationBalance.j0 k a0 a1 a2 true) else (if a1 < 0 then (salchowlaw36_RotationBalance.j0 k a0 a1 a2 true) else (if a1 ≥ a0 then (salchowlaw36_RotationBalance.j0 k a0 a1 a2 true) else (if a2 < 0 then (salchowlaw36_RotationBalance.j0 k a0 a1 a2 true) else (salchowlaw36_RotationBalance.j0 k a0 a1 a2 (decide (a2 ≥ a0)))))))) else (some false)) = some r := H
  have A4 := Aside0.mk A40
  clear A40
  by_cases c5 : t452 = true
  · subst c5
    have H1 : (if a0 < 1 then (salchowlaw36_RotationBalance.j0 k a0 a1 a2 true) else (if a0 > 24 then (salchowlaw36_RotationBalance.j0 k a0 a1 a2 true) else (if a1 < 0 then (salchowlaw36_RotationBalance.j0 k a0 a1 a2 true) else (if a1 ≥ a0 then (salchowlaw36_RotationBalance.j0 k a0 a1 a2 true) else (if a2 < 0 then (salchowlaw36_RotationBalance.j0 k a0 a1 a2 true) else (salchowlaw36_RotationBalance.j0 k a0 a1 a2 (decide (a2 ≥ a0)))))))) = some r := by rw [if_pos rfl] at H; exact H
    clear H
    have H := H1
    clear H1
    have HC6 := Aside0.mk H
    clear H
    go_enter Try.func9, Try.ntmps9
    go_upto_region 3 with (first | ((with_reducible refine gate_callee (f := 13) rfl ?_); refine goesL_ (some 12) rfl rfl Try.func13 (by kernel_rfl) rfl #[] rfl (by (try simp only [List.map_toArray, List.map_cons, List.map_nil]); first | done | rfl | (simp only [List.length_drop, List.length_take]; rfl)) ?_; (with_reducible refine (salchowlaw36_awake.calls k  true _ A4.out).mono ?_); rintro e w7 ⟨rfl, hb⟩; refine ⟨_, rfl, ?_⟩; have n0_ := Aside0.mk (below_step (by repeat (first | (with_reducible first | exact HB.out | apply below_alloc | apply pw_below_drewN | apply below_drew1) | exact HB.out)) hb); clear HB; have HB := n0_; clear n0_; (try clear hb); (try clear hb2); (try clear hk); (try clear hi)))
    (try simp only [Act.put, List.setIfInBounds_toArray, List.set_cons_zero, List.set_cons_succ])
    go_cut [37] (fun v37 wc => ∃ (kq : Nat) (x37_5 : Bool), v37 = .bool x37_5 ∧ Aside0 (salchowlaw36_RotationBalance.j0 kq a0 a1 a2 x37_5 = some r) ∧ Aside0 (kq ≤ k) ∧ Aside0 (Below w.heap.size w wc))
    case first =>
      have H := HC6.out
      clear HC6
      by_cases c8 : a0 < 1
      · rw [if_pos c8] at H
        have c8b0 : decide (a0 < 1) = true := decide_eq_true c8
        clear c8
        (first | rw [c8b0] | (simp only [i64_w, i32_w]; rw [c8b0]) | skip)
        have H' := Aside0.mk H
        clear H
        go_wp2
        go_meet
        case rel => exact ⟨_, (true), (by first | rfl | (simp; done) | (simp [*]; done)), H', ⟨by first | omega | exact Nat.le_refl _⟩, ⟨by repeat (first | (with_reducible first | exact HB.out | apply below_alloc | apply pw_below_drewN | apply below_drew1) | exact HB.out)⟩⟩
      · rw [if_neg c8] at H
        have c8b0 : decide (a0 < 1) = false := decide_eq_false c8
        clear c8
        (first | rw [c8b0] | (simp only [i64_w, i32_w]; rw [c8b0]) | skip)
        by_cases c9 : a0 > 24
        · rw [if_pos c9] at H
          have c9b0 : decide (24 < a0) = true := decide_eq_true c9
          clear c9
          have H' := Aside0.mk H
          clear H
          go_wp2
          go_meet
          case rel => exact ⟨_, (true), (by first | rfl | (simp; done) | (simp [*]; done)), H', ⟨by first | omega | exact Nat.le_refl _⟩, ⟨by repeat (first | (with_reducible first | exact HB.out | apply below_alloc | apply pw_below_drewN | apply below_drew1) | exact HB.out)⟩⟩
        · rw [if_neg c9] at H
          have c9b0 : decide (24 < a0) = false := decide_eq_false c9
          clear c9
          by_cases c10 : a1 < 0
          · rw [if_pos c10] at H
            have c10b0 : decide (a1 < 0) = true := decide_eq_true c10
            clear c10
            have H' := Aside0.mk H
            clear H
            go_wp2
            go_meet
            case rel => exact ⟨_, (true), (by first | rfl | (simp; done) | (simp [*]; done)), H', ⟨by first | omega | exact Nat.le_refl _⟩, ⟨by repeat (first | (with_reducible first | exact HB.out | apply below_alloc | apply pw_below_drewN | apply below_drew1) | exact HB.out)⟩⟩
          · rw [if_neg c10] at H
            have c10b0 : decide (a1 < 0) = false := decide_eq_false c10
            clear c10
            by_cases c11 : a1 ≥ a0
            · rw [if_pos c11] at H
              have c11b0 : decide (a0 ≤ a1) = true := decide_eq_true c11
              clear c11
              have H' := Aside0.mk H
              clear H
              go_wp2
              go_meet
              case rel => exact ⟨_, (true), (by first | rfl | (simp; done) | (simp [*]; done)), H', ⟨by first | omega | exact Nat.le_refl _⟩, ⟨by repeat (first | (with_reducible first | exact HB.out | apply below_alloc | apply pw_below_drewN | apply below_drew1) | exact HB.out)⟩⟩
            · rw [if_neg c11] at H
              have c11b0 : decide (a0 ≤ a1) = false := decide_eq_false c11
              clear c11
              by_cases c12 : a2 < 0
              · rw [if_pos c12] at H
                have c12b0 : decide (a2 < 0) = true := decide_eq_true c12
                clear c12
                have H' := Aside0.mk H
                clear H
                go_wp2
                go_meet
                case rel => exact ⟨_, (true), (by first | rfl | (simp; done) | (simp [*]; done)), H', ⟨by first | omega | exact Nat.le_refl _⟩, ⟨by repeat (first | (with_reducible first | exact HB.out | apply below_alloc | apply pw_below_drewN | apply below_drew1) | exact HB.out)⟩⟩
              · rw [if_neg c12] at H
                have c12b0 : decide (a2 < 0) = false := decide_eq_false c12
                clear c12
                have H' := Aside0.mk H
                clear H
                go_wp2
                go_meet
                case rel => exact ⟨_, (decide (a2 ≥ a0)), (by first | rfl | (simp; done) | (simp [*]; done)), H', ⟨by first | omega | exact Nat.le_refl _⟩, ⟨by repeat (first | (with_reducible first | exact HB.out | apply below_alloc | apply pw_below_drewN | apply below_drew1) | exact HB.out)⟩⟩
    case rest =>
      clear HC6
      try clear c1
      try clear p2
      try clear c5
      try clear c8
      try clear c8b0
      try clear c9
      try clear c9b0
      try clear c10
      try clear c10b0
      try clear c11
      try clear c11b0
      try clear c12
      try clear c12b0
      obtain ⟨kq, x37_5, rfl, HA, HJ5, HB⟩ := hcut
      cases kq with
      | zero => exact absurd HA.out (by simp [salchowlaw36_RotationBalance.j0])
      | succ kj5 =>
        have H := HA.out
        clear HA
        simp only [salchowlaw36_RotationBalance.j0] at H
        by_cases c13 : x37_5 = true
        · subst c13
          have H1 : (some true) = some r := by rw [if_pos rfl] at H; exact H
          clear H
          have H := H1
          clear H1
          obtain rfl := Option.some.inj H
          go_wp2
          go_ret
          exact ⟨by first | rfl | (simp [errW_none, errW_some] <;> rfl) | (simp [*, errW_none, errW_some] <;> rfl), by repeat (first | (with_reducible first | exact HB.out | apply below_alloc | apply pw_below_drewN | apply below_drew1) | exact HB.out)⟩
        · replace c13 := Bool.eq_false_iff.mpr c13
          subst c13
          have H1 : ((rotation_Cyclic.f kj5 a0).bind fun bt453 => ((rotation_Carry.f kj5 bt453.1).bind fun bt457 => (if bt453.2 = 0 then (salchowlaw36_RotationBalance.j1 kj5 a0 a1 a2 bt457.1 (bt457.2 != 0)) else (salchowlaw36_RotationBalance.j1 kj5 a0 a1 a2 bt457.1 true)))) = some r := by rw [if_neg (show ¬ (false = true) by decide)] at H; exact H
          clear H
          have H := H1
          clear H1
          replace H := Option.bind_eq_some_iff.mp H
          obtain ⟨⟨t453, t454⟩, A140, H⟩ := H
          replace H : ((rotation_Carry.f kj5 t453).bind fun bt457 => (if t454 = 0 then (salchowlaw36_RotationBalance.j1 kj5 a0 a1 a2 bt457.1 (bt457.2 != 0)) else (salchowlaw36_RotationBalance.j1 kj5 a0 a1 a2 bt457.1 true))) = some r := H
          have A14 := Aside0.mk A140
          clear A140
          replace H := Option.bind_eq_some_iff.mp H
          obtain ⟨⟨t457, t458⟩, A150, H⟩ := H
          replace H : (if t454 = 0 then (salchowlaw36_RotationBalance.j1 kj5 a0 a1 a2 t457 (t458 != 0)) else (salchowlaw36_RotationBalance.j1 kj5 a0 a1 a2 t457 true)) = some r := H
          have A15 := Aside0.mk A150
          clear A150
          have HC16 := Aside0.mk H
          clear H
          go_upto_region 7 with (first | ((with_reducible refine gate_callee (f := 14) rfl ?_); refine goesL_ (some 40) rfl rfl Try.func14 (by kernel_rfl) rfl #[.int .i64 a0] rfl (by (try simp only [List.map_toArray, List.map_cons, List.map_nil]); first | done | rfl | (simp only [List.length_drop, List.length_take]; rfl)) ?_; (with_reducible refine (rotation_Cyclic.calls kj5 a0 t453 t454 _ A14.out).mono ?_); rintro e w17 ⟨v455, rfl, ho0, hb⟩; refine ⟨_, rfl, ?_⟩; have n0_ := Aside0.mk (Kd.S_lower ho0 (below_size (by repeat (first | (with_reducible first | exact HB.out | apply below_alloc | apply pw_below_drewN | apply below_drew1) | exact HB.out)))); have n1_ := Aside0.mk (below_step (by repeat (first | (with_reducible first | exact HB.out | apply below_alloc | apply pw_below_drewN | apply below_drew1) | exact HB.out)) hb); clear HB; have HO456 := n0_; have HB := n1_; clear n0_ n1_; (try clear hb); (try clear hb2); (try clear hk); (try clear hi); (try clear ho0); obtain ⟨Ao18, co18, eo18⟩ := Kd.S_slice HO456.out; subst eo18) | ((with_reducible refine gate_callee (f := 31) rfl ?_); refine goesL_ (some 45) rfl rfl Try.func31 (by kernel_rfl) rfl #[.slice Ao18 t453.length co18] rfl (by (try simp only [List.map_toArray, List.map_cons, List.map_nil]); first | done | rfl | (simp only [List.length_drop, List.length_take]; rfl)) ?_; (with_reducible refine (rotation_Carry.calls kj5 _ _ t453 t457 t458 _ ?side1 ?side2 A15.out).mono ?_); (case side1 => repeat (first | exact (Kd.S_reads' HO456.out).2.2 | (with_reducible refine Kd.C_alloc ?_ _) | (with_reducible refine Kd.C_drewN ?_ _) | (with_reducible refine Kd.C_drew ?_))); (case side2 => exact (Kd.S_reads' HO456.out).2.1); rintro e w19 ⟨v459, rfl, ho0, hb⟩; refine ⟨_, rfl, ?_⟩; have n0_ := Aside0.mk (Kd.S_elder' (by (with_reducible repeat (first | apply Kd.S_alloc | apply Kd.S_drewN | apply Kd.S_drew)); exact HO456.out) (Kd.S_base ho0) hb); have n1_ := Aside0.mk (Kd.S_lower (Kd.S_new' ho0 (Kd.S_lt (by (with_reducible repeat (first | apply Kd.S_alloc | apply Kd.S_drewN | apply Kd.S_drew)); exact HO456.out))) (below_size (by repeat (first | (with_reducible first | exact HB.out | apply below_alloc | apply pw_below_drewN | apply below_drew1) | exact HB.out)))); have n2_ := Aside0.mk (below_step (by repeat (first | (with_reducible first | exact HB.out | apply below_alloc | apply pw_below_drewN | apply below_drew1) | exact HB.out)) hb); clear HO456; clear HB; have HO456 := n0_; have HO460 := n1_; have HB := n2_; clear n0_ n1_ n2_; (try clear hb); (try clear hb2); (try clear hk); (try clear hi); (try clear ho0)))
          (try simp only [Act.put, List.setIfInBounds_toArray, List.set_cons_zero, List.set_cons_succ])
          go_cut [53] (fun v53 wc => ∃ (kq : Nat) (x53_15 : Bool), v53 = .bool x53_15 ∧ Aside0 (salchowlaw36_RotationBalance.j1 kq a0 a1 a2 t457 x53_15 = some r) ∧ Aside0 (kq ≤ kj5) ∧ Aside0 (Kd.S (Kd.slice 3 (Kd.int .i64)) 31 wc w.heap.size (fun _ => True) v459 t457) ∧ Aside0 (Below w.heap.size w wc))
          case first =>
            have H := HC16.out
            clear HC16
            by_cases c20 : t454 = 0
            · rw [if_pos c20] at H
              have c20b0 : (t454 == 0) = true := beq_iff_eq.mpr c20
              have c20b1 : (t454 != 0) = false := bne_eq_false_iff_eq.mpr c20
              clear c20
              (first | rw [c20b0] | (simp only [i64_w, i32_w]; rw [c20b0]) | skip)
              have H' := Aside0.mk H
              clear H
              go_wp2
              go_meet
              case rel => exact ⟨_, ((t458 != 0)), (by first | rfl | (simp; done) | (simp [*]; done)), H', ⟨by have := HJ5.out; first | omega | exact Nat.le_refl _⟩, ⟨by (with_reducible repeat (first | apply Kd.S_alloc | apply Kd.S_drewN | apply Kd.S_drew)); exact Kd.S_mono HO460.out (fun _ hk => trivial)⟩, ⟨by repeat (first | (with_reducible first | exact HB.out | apply below_alloc | apply pw_below_drewN | apply below_drew1) | exact HB.out)⟩⟩
            · rw [if_neg c20] at H
              have c20b0 : (t454 == 0) = false := beq_eq_false_iff_ne.mpr c20
              have c20b1 : (t454 != 0) = true := bne_iff_ne.mpr c20
              (first | rw [c20b0] | (simp only [i64_w, i32_w]; rw [c20b0]) | skip)
              have H' := Aside0.mk H
              clear H
              go_wp2
              go_meet
              case rel => exact ⟨_, (true), (by first | rfl | (simp; done) | (simp [*]; done)), H', ⟨by have := HJ5.out; first | omega | exact Nat.le_refl _⟩, ⟨by (with_reducible repeat (first | apply Kd.S_alloc | apply Kd.S_drewN | apply Kd.S_drew)); exact Kd.S_mono HO460.out (fun _ hk => trivial)⟩, ⟨by repeat (first | (with_reducible first | exact HB.out | apply below_alloc | apply pw_below_drewN | apply below_drew1) | exact HB.out)⟩⟩
          case rest =>
            clear HC16
            try clear c1
            try clear c2
            try clear p2
            try clear c3
            try clear c5
            try clear c8
            try clear c8b0
            try clear c9
            try clear c9b0
            try clear c10
            try clear c10b0
            try clear c11
            try clear c11b0
            try clear c12
            try clear c12b0
            try clear c13
            try clear c14
            try clear c20
            try clear c20b0
            try clear c20b1
            try clear p2
            obtain ⟨kq, x53_15, rfl, HA, HJ15, HO_9, HB⟩ := hcut
            cases kq with
            | zero => exact absurd HA.out (by simp [salchowlaw36_RotationBalance.j1])
            | succ kj15 =>
              have H := HA.out
              clear HA
              simp only [salchowlaw36_RotationBalance.j1] at H
              by_cases c21 : x53_15 = true
              · subst c21
                have H1 : (some false) = some r := by rw [if_pos rfl] at H; exact H
                clear H
                have H := H1
                clear H1
                obtain rfl := Option.some.inj H
                go_wp2
                go_ret
                exact ⟨by first | rfl | (simp [errW_none, errW_some] <;> rfl) | (simp [*, errW_none, errW_some] <;> rfl), by repeat (first | (with_reducible first | exact HB.out | apply below_alloc | apply pw_below_drewN | apply below_drew1) | exact HB.out)⟩
              · replace c21 := Bool.eq_false_iff.mpr c21
                subst c21
                have H1 : (if a0 = 0 then (none) else (if a2 = (Int.tmod (wrap64 (a1 + 1)) a0) then (salchowlaw36_RotationBalance.j2 kj15 a0 a1 a2 t457 (wrap64 (a0 - 1))) else (salchowlaw36_RotationBalance.j2 kj15 a0 a1 a2 t457 0))) = some r := by rw [if_neg (show ¬ (false = true) by decide)] at H; exact H
                clear H
                have H := H1
                clear H1
                by_cases c22 : a0 = 0
                · rw [if_pos c22] at H
                  exact absurd H (by simp)
                · rw [if_neg c22] at H
                  have c22b0 : (a0 == 0) = false := beq_eq_false_iff_ne.mpr c22
                  have c22b1 : (a0 != 0) = true := bne_iff_ne.mpr c22
                  have HC23 := Aside0.mk H
                  clear H
                  go_upto_if 59 with (fail)
                  go_cut [11] (fun v11 wc => ∃ (kq : Nat) (x11_22 : Int), v11 = .int .i64 x11_22 ∧ Aside0 (salchowlaw36_RotationBalance.j2 kq a0 a1 a2 t457 x11_22 = some r) ∧ Aside0 (kq ≤ kj15) ∧ Aside0 (Kd.S (Kd.slice 3 (Kd.int .i64)) 31 wc w.heap.size (fun _ => True) v459 t457) ∧ Aside0 (Below w.heap.size w wc))
                  case first =>
                    have H := HC23.out
                    clear HC23
                    by_cases c24 : a2 = (Int.tmod (wrap64 (a1 + 1)) a0)
                    · rw [if_pos c24] at H
                      have c24b0 : (a2 == (Int.tmod (wrap64 (a1 + 1)) a0)) = true := beq_iff_eq.mpr c24
                      have c24b1 : (a2 != (Int.tmod (wrap64 (a1 + 1)) a0)) = false := bne_eq_false_iff_eq.mpr c24
                      clear c24
                      (first | rw [c24b0] | (simp only [i64_w, i32_w]; rw [c24b0]) | skip)
                      have H' := Aside0.mk H
                      clear H
                      go_wp2
                      go_meet
                      case rel => exact ⟨_, (wrap64 (a0 - 1)), (by first | rfl | (simp; done) | (simp [*]; done)), H', ⟨by have := HJ5.out; have := HJ15.out; first | omega | exact Nat.le_refl _⟩, ⟨by (with_reducible repeat (first | apply Kd.S_alloc | apply Kd.S_drewN | apply Kd.S_drew)); exact HO_9.out⟩, ⟨by repeat (first | (with_reducible first | exact HB.out | apply below_alloc | apply pw_below_drewN | apply below_drew1) | exact HB.out)⟩⟩
                    · rw [if_neg c24] at H
                      have c24b0 : (a2 == (Int.tmod (wrap64 (a1 + 1)) a0)) = false := beq_eq_false_iff_ne.mpr c24
                      have c24b1 : (a2 != (Int.tmod (wrap64 (a1 + 1)) a0)) = true := bne_iff_ne.mpr c24
                      (first | rw [c24b0] | (simp only [i64_w, i32_w]; rw [c24b0]) | skip)
                      have H' := Aside0.mk H
                      clear H
                      go_wp2
                      go_meet
                      case rel => exact ⟨_, (0), (by first | rfl | (simp; done) | (simp [*]; done)), H', ⟨by have := HJ5.out; have := HJ15.out; first | omega | exact Nat.le_refl _⟩, ⟨by (with_reducible repeat (first | apply Kd.S_alloc | apply Kd.S_drewN | apply Kd.S_drew)); exact HO_9.out⟩, ⟨by repeat (first | (with_reducible first | exact HB.out | apply below_alloc | apply pw_below_drewN | apply below_drew1) | exact HB.out)⟩⟩
                  case rest =>
                    clear HC23
                    try clear c1
                    try clear c2
                    try clear p2
                    try clear c3
                    try clear c5
                    try clear p6
                    try clear c8
                    try clear c8b0
                    try clear c9
                    try clear c9b0
                    try clear c10
                    try clear c10b0
                    try clear c11
                    try clear c11b0
                    try clear c12
                    try clear c12b0
                    try clear c13
                    try clear c14
                    try clear c20
                    try clear c20b0
                    try clear c20b1
                    try clear c21
                    try clear c22
                    try clear c22b0
                    try clear c22b1
                    try clear c24
                    try clear c24b0
                    try clear c24b1
                    try clear p2
                    obtain ⟨kq, x11_22, rfl, HA, HJ22, HO_9, HB⟩ := hcut
                    cases kq with
                    | zero => exact absurd HA.out (by simp [salchowlaw36_RotationBalance.j2])
                    | succ kj22 =>
                      have H := HA.out
                      clear HA
                      simp only [salchowlaw36_RotationBalance.j2] at H
                      by_cases c25 : 0 ≤ a1
                      · rw [if_pos c25] at H
                        have c25b0 : decide (0 ≤ a1) = true := decide_eq_true c25
                        clear c25
                        by_cases c26 : a1 < (t457.length : Int)
                        · rw [if_pos c26] at H
                          have c26b0 : decide (a1 < (t457.length : Int)) = true := decide_eq_true c26
                          clear c26
                          by_cases c27 : 0 ≤ a2
                          · rw [if_pos c27] at H
                            have c27b0 : decide (0 ≤ a2) = true := decide_eq_true c27
                            clear c27
                            by_cases c28 : a2 < ((rd_L1 t457 a1).length : Int)
                            · rw [if_pos c28] at H
                              have c28b0 : decide (a2 < ((rd_L1 t457 a1).length : Int)) = true := decide_eq_true c28
                              clear c28
                              by_cases c29 : (rd (rd_L1 t457 a1) a2) = x11_22
                              · rw [if_pos c29] at H
                                have c29b0 : ((rd (rd_L1 t457 a1) a2) == x11_22) = true := beq_iff_eq.mpr c29
                                have c29b1 : ((rd (rd_L1 t457 a1) a2) != x11_22) = false := bne_eq_false_iff_eq.mpr c29
                                clear c29
                                replace H := Option.bind_eq_some_iff.mp H
                                obtain ⟨⟨t463, t464⟩, A300, H⟩ := H
                                replace H : (if t464 = 0 then ((rotation_Carry.f kj22 t463).bind fun bt467 => (if bt467.2 = 0 then (salchowlaw36_RotationBalance.j3 kj22 a1 a2 bt467.1 ((Int.tmod a0 2) == 1)) else (salchowlaw36_RotationBalance.j3 kj22 a1 a2 bt467.1 true))) else (if t464 = 8 then (some ((Int.tmod a0 2) == 1)) else (some false))) = some r := H
                                have A30 := Aside0.mk A300
                                clear A300
                                by_cases c31 : t464 = 0
                                · rw [if_pos c31] at H
                                  have c31b0 : (t464 == 0) = true := beq_iff_eq.mpr c31
                                  have c31b1 : (t464 != 0) = false := bne_eq_false_iff_eq.mpr c31
                                  clear c31
                                  replace H := Option.bind_eq_some_iff.mp H
                                  obtain ⟨⟨t467, t468⟩, A320, H⟩ := H
                                  replace H : (if t468 = 0 then (salchowlaw36_RotationBalance.j3 kj22 a1 a2 t467 ((Int.tmod a0 2) == 1)) else (salchowlaw36_RotationBalance.j3 kj22 a1 a2 t467 true)) = some r := H
                                  have A32 := Aside0.mk A320
                                  clear A320
                                  have HC33 := Aside0.mk H
                                  clear H
                                  obtain ⟨Ao34, co34, eo34⟩ := Kd.S_slice HO_9.out
                                  subst eo34
                                  have p461 : 0 ≤ (a1 : Int) := of_decide_eq_true (by first | (with_reducible assumption) | assumption)
                                  have q461 : a1 < (t457.length : Int) := of_decide_eq_true (by first | (with_reducible assumption) | assumption)
                                  obtain ⟨ad461, A461_0, c461_0, e461, hx461_0, hl461_0, hi461_0⟩ := at_L1 (Kd.S_reads' HO_9.out).2.2 a1 p461 q461
                                  cases e461
                                  obtain ⟨ce461, hce461, hMe461, hcc461⟩ := Kd.S_get HO_9.out [] a1 p461 (by first | exact q461 | exact of_decide_eq_true (by first | (with_reducible assumption) | assumption) | (have e_ := (Kd.S_reads' HO_9.out).1; omega))
                                  obtain ⟨ve461_0, rfl, ge461_0⟩ := hMe461
                                  have hv461_0 := hcc461 0 _ rfl
                                  rw [Nat.add_zero, show ((Kd.slice 3 (Kd.int .i64))).sz = 1 from rfl, Nat.mul_one] at hv461_0
                                  replace hv461_0 := Option.some.inj (hv461_0.symm.trans hx461_0)
                                  rw [hv461_0] at ge461_0
                                  have HL461_0 := Aside0.mk (show Kd.R (Kd.int .i64) 3 _ _ _ _ (rd_L1 t457 a1) from ge461_0)
                                  clear hv461_0 ge461_0
                                  clear hcc461 hce461
                                  have HR461_0 := Aside0.mk hi461_0
                                  have HC461_0 := Aside0.mk hl461_0
                                  clear hi461_0 hl461_0
                                  replace p461 := eq_true p461
                                  replace q461 := eq_true q461
                                  have p462 : 0 ≤ (a2 : Int) := of_decide_eq_true (by first | (with_reducible assumption) | assumption)
                                  have q462 : a2 < ((rd_L1 t457 a1).length : Int) := of_decide_eq_true (by first | (with_reducible assumption) | assumption)
                                  obtain ⟨ad462, e462, hx462_0⟩ := Kd.at_int (by repeat (first | (with_reducible exact HR461_0.out) | (with_reducible refine Kd.C_alloc ?_ _) | (with_reducible refine Kd.C_drewN ?_ _) | (with_reducible refine Kd.C_drew ?_) | exact HR461_0.out)) a2 p462 q462
                                  cases e462
                                  replace p462 := eq_true p462
                                  replace q462 := eq_true q462
                                  go_upto_region 18 with (first | ((with_reducible refine gate_callee (f := 15) rfl ?_); refine goesL_ (some 73) rfl rfl Try.func15 (by kernel_rfl) rfl #[.int .i64 a0] rfl (by (try simp only [List.map_toArray, List.map_cons, List.map_nil]); first | done | rfl | (simp only [List.length_drop, List.length_take]; rfl)) ?_; (with_reducible refine (rotation_Balanced.calls kj22 a0 t463 t464 _ A30.out).mono ?_); rintro e w35 ⟨v465, rfl, ho0, hb⟩; refine ⟨_, rfl, ?_⟩; have n0_ := Aside0.mk (Kd.S_elder' (by (with_reducible repeat (first | apply Kd.S_alloc | apply Kd.S_drewN | apply Kd.S_drew)); exact HO_9.out) (Kd.S_base ho0) hb); have n1_ := Aside0.mk (Kd.R_below (by (with_reducible repeat (first | apply Kd.R_alloc | apply Kd.R_drewN | apply Kd.R_drew)); exact HL461_0.out) hb); have n2_ := Aside0.mk (Kd.S_lower (Kd.S_new' (Kd.S_new' ho0 (Kd.S_lt (by (with_reducible repeat (first | apply Kd.S_alloc | apply Kd.S_drewN | apply Kd.S_drew)); exact HO_9.out))) (Kd.R_lt (by (with_reducible repeat (first | apply Kd.R_alloc | apply Kd.R_drewN | apply Kd.R_drew)); exact HL461_0.out))) (below_size (by repeat (first | (with_reducible first | exact HB.out | apply below_alloc | apply pw_below_drewN | apply below_drew1) | exact HB.out)))); have n3_ := Aside0.mk (Kd.C_below (by repeat (first | (with_reducible exact HR461_0.out) | (with_reducible refine Kd.C_alloc ?_ _) | (with_reducible refine Kd.C_drewN ?_ _) | (with_reducible refine Kd.C_drew ?_) | exact HR461_0.out)) hb); have n4_ := Aside0.mk (below_step (by repeat (first | (with_reducible first | exact HB.out | apply below_alloc | apply pw_below_drewN | apply below_drew1) | exact HB.out)) hb); clear HO_9; clear HL461_0; clear HR461_0; clear HB; have HO_9 := n0_; have HL461_0 := n1_; have HO466 := n2_; have HR461_0 := n3_; have HB := n4_; clear n0_ n1_ n2_ n3_ n4_; (try clear hb); (try clear hb2); (try clear hk); (try clear hi); (try clear ho0); obtain ⟨Ao36, co36, eo36⟩ := Kd.S_slice HO466.out; subst eo36) | ((with_reducible refine gate_callee (f := 31) rfl ?_); refine goesL_ (some 87) rfl rfl Try.func31 (by kernel_rfl) rfl #[.slice Ao36 t463.length co36] rfl (by (try simp only [List.map_toArray, List.map_cons, List.map_nil]); first | done | rfl | (simp only [List.length_drop, List.length_take]; rfl)) ?_; (with_reducible refine (rotation_Carry.calls kj22 _ _ t463 t467 t468 _ ?side1 ?side2 A32.out).mono ?_); (case side1 => repeat (first | exact (Kd.S_reads' HO466.out).2.2 | (with_reducible refine Kd.C_alloc ?_ _) | (with_reducible refine Kd.C_drewN ?_ _) | (with_reducible refine Kd.C_drew ?_))); (case side2 => exact (Kd.S_reads' HO466.out).2.1); rintro e w37 ⟨v469, rfl, ho0, hb⟩; refine ⟨_, rfl, ?_⟩; have n0_ := Aside0.mk (Kd.S_elder' (by (with_reducible repeat (first | apply Kd.S_alloc | apply Kd.S_drewN | apply Kd.S_drew)); exact HO_9.out) (Kd.S_base ho0) hb); have n1_ := Aside0.mk (Kd.R_below (by (with_reducible repeat (first | apply Kd.R_alloc | apply Kd.R_drewN | apply Kd.R_drew)); exact HL461_0.out) hb); have n2_ := Aside0.mk (Kd.S_elder' (by (with_reducible repeat (first | apply Kd.S_alloc | apply Kd.S_drewN | apply Kd.S_drew)); exact HO466.out) (Kd.S_base ho0) hb); have n3_ := Aside0.mk (Kd.S_lower (Kd.S_new' (Kd.S_new' (Kd.S_new' ho0 (Kd.S_lt (by (with_reducible repeat (first | apply Kd.S_alloc | apply Kd.S_drewN | apply Kd.S_drew)); exact HO_9.out))) (Kd.R_lt (by (with_reducible repeat (first | apply Kd.R_alloc | apply Kd.R_drewN | apply Kd.R_drew)); exact HL461_0.out))) (Kd.S_lt (by (with_reducible repeat (first | apply Kd.S_alloc | apply Kd.S_drewN | apply Kd.S_drew)); exact HO466.out))) (below_size (by repeat (first | (with_reducible first | exact HB.out | apply below_alloc | apply pw_below_drewN | apply below_drew1) | exact HB.out)))); have n4_ := Aside0.mk (Kd.C_below (by repeat (first | (with_reducible exact HR461_0.out) | (with_reducible refine Kd.C_alloc ?_ _) | (with_reducible refine Kd.C_drewN ?_ _) | (with_reducible refine Kd.C_drew ?_) | exact HR461_0.out)) hb); have n5_ := Aside0.mk (below_step (by repeat (first | (with_reducible first | exact HB.out | apply below_alloc | apply pw_below_drewN | apply below_drew1) | exact HB.out)) hb); clear HO_9; clear HL461_0; clear HO466; clear HR461_0; clear HB; have HO_9 := n0_; have HL461_0 := n1_; have HO466 := n2_; have HO470 := n3_; have HR461_0 := n4_; have HB := n5_; clear n0_ n1_ n2_ n3_ n4_ n5_; (try clear hb); (try clear hb2); (try clear hk); (try clear hi); (try clear ho0)))
                                  (try simp only [Act.put, List.setIfInBounds_toArray, List.set_cons_zero, List.set_cons_succ])
                                  go_cut [96] (fun v96 wc => ∃ (kq : Nat) (x96_32 : Bool), v96 = .bool x96_32 ∧ Aside0 (salchowlaw36_RotationBalance.j3 kq a1 a2 t467 x96_32 = some r) ∧ Aside0 (kq ≤ kj22) ∧ Aside0 (Kd.S (Kd.slice 3 (Kd.int .i64)) 31 wc w.heap.size (fun _ => True) v469 t467) ∧ Aside0 (Kd.C (Kd.int .i64) wc (some ad462) (rd_L1 t457 a1).length (rd_L1 t457 a1)) ∧ Aside0 (Below w.heap.size w wc))
                                  case first =>
                                    have H := HC33.out
                                    clear HC33
                                    by_cases c38 : t468 = 0
                                    · rw [if_pos c38] at H
                                      have c38b0 : (t468 == 0) = true := beq_iff_eq.mpr c38
                                      have c38b1 : (t468 != 0) = false := bne_eq_false_iff_eq.mpr c38
                                      clear c38
                                      (first | rw [c38b0] | (simp only [i64_w, i32_w]; rw [c38b0]) | skip)
                                      have H' := Aside0.mk H
                                      clear H
                                      go_wp2
                                      go_meet
                                      case rel => exact ⟨_, (((Int.tmod a0 2) == 1)), (by first | rfl | (simp; done) | (simp [*]; done)), H', ⟨by have := HJ5.out; have := HJ15.out; have := HJ22.out; first | omega | exact Nat.le_refl _⟩, ⟨by (with_reducible repeat (first | apply Kd.S_alloc | apply Kd.S_drewN | apply Kd.S_drew)); exact Kd.S_mono HO470.out (fun _ hk => trivial)⟩, ⟨by repeat (first | (with_reducible exact HR461_0.out) | (with_reducible refine Kd.C_alloc ?_ _) | (with_reducible refine Kd.C_drewN ?_ _) | (with_reducible refine Kd.C_drew ?_) | exact HR461_0.out)⟩, ⟨by repeat (first | (with_reducible first | exact HB.out | apply below_alloc | apply pw_below_drewN | apply below_drew1) | exact HB.out)⟩⟩
                                    · rw [if_neg c38] at H
                                      have c38b0 : (t468 == 0) = false := beq_eq_false_iff_ne.mpr c38
                                      have c38b1 : (t468 != 0) = true := bne_iff_ne.mpr c38
                                      (first | rw [c38b0] | (simp only [i64_w, i32_w]; rw [c38b0]) | skip)
                                      have H' := Aside0.mk H
                                      clear H
                                      go_wp2
                                      go_meet
                                      case rel => exact ⟨_, (true), (by first | rfl | (simp; done) | (simp [*]; done)), H', ⟨by have := HJ5.out; have := HJ15.out; have := HJ22.out; first | omega | exact Nat.le_refl _⟩, ⟨by (with_reducible repeat (first | apply Kd.S_alloc | apply Kd.S_drewN | apply Kd.S_drew)); exact Kd.S_mono HO470.out (fun _ hk => trivial)⟩, ⟨by repeat (first | (with_reducible exact HR461_0.out) | (with_reducible refine Kd.C_alloc ?_ _) | (with_reducible refine Kd.C_drewN ?_ _) | (with_reducible refine Kd.C_drew ?_) | exact HR461_0.out)⟩, ⟨by repeat (first | (with_reducible first | exact HB.out | apply below_alloc | apply pw_below_drewN | apply below_drew1) | exact HB.out)⟩⟩
                                  case rest =>
                                    clear HC33
                                    try clear c1
                                    try clear c2
                                    try clear p2
                                    try clear c3
                                    try clear c4
                                    try clear p4
                                    try clear q4
                                    try clear hx4
                                    try clear c5
                                    try clear p6
                                    try clear c8
                                    try clear c8b0
                                    try clear c9
                                    try clear c9b0
                                    try clear c10
                                    try clear c10b0
                                    try clear c11
                                    try clear c11b0
                                    try clear c12
                                    try clear c12b0
                                    try clear c13
                                    try clear c14
                                    try clear c15
                                    try clear c20
                                    try clear c20b0
                                    try clear c20b1
                                    try clear c21
                                    try clear c22
                                    try clear c22b0
                                    try clear c22b1
                                    try clear c24
                                    try clear c24b0
                                    try clear c24b1
                                    try clear c25
                                    try clear c25b0
                                    try clear c26
                                    try clear c26b0
                                    try clear c27
                                    try clear c27b0
                                    try clear c28
                                    try clear c28b0
                                    try clear c29
                                    try clear c29b0
                                    try clear c29b1
                                    try clear c31
                                    try clear c31b0
                                    try clear c31b1
                                    try clear c38
                                    try clear c38b0
                                    try clear c38b1
                                    try clear hx461_0
                                    try clear hx462_0
                                    try clear p2
                                    try clear p461
                                    try clear p462
                                    try clear p6
                                    try clear q461
                                    try clear q462
                                    obtain ⟨kq, x96_32, rfl, HA, HJ32, HO_9, HR461_0, HB⟩ := hcut
                                    cases kq with
                                    | zero => exact absurd HA.out (by simp [salchowlaw36_RotationBalance.j3])
                                    | succ kj32 =>
                                      have H := HA.out
                                      clear HA
                                      simp only [salchowlaw36_RotationBalance.j3] at H
                                      by_cases c39 : x96_32 = true
                                      · subst c39
                                        have H1 : (some false) = some r := by rw [if_pos rfl] at H; exact H
                                        clear H
                                        have H := H1
                                        clear H1
                                        obtain rfl := Option.some.inj H
                                        go_wp2
                                        go_ret
                                        exact ⟨by first | rfl | (simp [errW_none, errW_some] <;> rfl) | (simp [*, errW_none, errW_some] <;> rfl), by repeat (first | (with_reducible first | exact HB.out | apply below_alloc | apply pw_below_drewN | apply below_drew1) | exact HB.out)⟩
                                      · replace c39 := Bool.eq_false_iff.mpr c39
                                        subst c39
                                        have H1 : (if a1 = a2 then (if 0 ≤ a1 then (if a1 < (t467.length : Int) then (if 0 ≤ a2 then (if a2 < ((rd_L1 t467 a1).length : Int) then (some ((rd (rd_L1 t467 a1) a2) == 0)) else (none)) else (none)) else (none)) else (none)) else (if 0 ≤ a1 then (if a1 < (t467.length : Int) then (if 0 ≤ a2 then (if a2 < ((rd_L1 t467 a1).length : Int) then (some ((rd (rd_L1 t467 a1) a2) == 1)) else (none)) else (none)) else (none)) else (none))) = some r := by rw [if_neg (show ¬ (false = true) by decide)] at H; exact H
                                        clear H
                                        have H := H1
                                        clear H1
                                        by_cases c40 : a1 = a2
                                        · rw [if_pos c40] at H
                                          have c40b0 : (a1 == a2) = true := beq_iff_eq.mpr c40
                                          have c40b1 : (a1 != a2) = false := bne_eq_false_iff_eq.mpr c40
                                          clear c40
                                          by_cases c41 : 0 ≤ a1
                                          · rw [if_pos c41] at H
                                            have c41b0 : decide (0 ≤ a1) = true := decide_eq_true c41
                                            clear c41
                                            by_cases c42 : a1 < (t467.length : Int)
                                            · rw [if_pos c42] at H
                                              have c42b0 : decide (a1 < (t467.length : Int)) = true := decide_eq_true c42
                                              clear c42
                                              by_cases c43 : 0 ≤ a2
                                              · rw [if_pos c43] at H
                                                have c43b0 : decide (0 ≤ a2) = true := decide_eq_true c43
                                                clear c43
                                                by_cases c44 : a2 < ((rd_L1 t467 a1).length : Int)
                                                · rw [if_pos c44] at H
                                                  have c44b0 : decide (a2 < ((rd_L1 t467 a1).length : Int)) = true := decide_eq_true c44
                                                  clear c44
                                                  obtain rfl := Option.some.inj H
                                                  obtain ⟨Ao45, co45, eo45⟩ := Kd.S_slice HO_9.out
                                                  subst eo45
                                                  have p471 : 0 ≤ (a1 : Int) := of_decide_eq_true (by first | (with_reducible assumption) | assumption)
                                                  have q471 : a1 < (t467.length : Int) := of_decide_eq_true (by first | (with_reducible assumption) | assumption)
                                                  obtain ⟨ad471, A471_0, c471_0, e471, hx471_0, hl471_0, hi471_0⟩ := at_L1 (Kd.S_reads' HO_9.out).2.2 a1 p471 q471
                                                  cases e471
                                                  obtain ⟨ce471, hce471, hMe471, hcc471⟩ := Kd.S_get HO_9.out [] a1 p471 (by first | exact q471 | exact of_decide_eq_true (by first | (with_reducible assumption) | assumption) | (have e_ := (Kd.S_reads' HO_9.out).1; omega))
                                                  obtain ⟨ve471_0, rfl, ge471_0⟩ := hMe471
                                                  have hv471_0 := hcc471 0 _ rfl
                                                  rw [Nat.add_zero, show ((Kd.slice 3 (Kd.int .i64))).sz = 1 from rfl, Nat.mul_one] at hv471_0
                                                  replace hv471_0 := Option.some.inj (hv471_0.symm.trans hx471_0)
                                                  rw [hv471_0] at ge471_0
                                                  have HL471_0 := Aside0.mk (show Kd.R (Kd.int .i64) 3 _ _ _ _ (rd_L1 t467 a1) from ge471_0)
                                                  clear hv471_0 ge471_0
                                                  clear hcc471 hce471
                                                  have HR471_0 := Aside0.mk hi471_0
                                                  have HC471_0 := Aside0.mk hl471_0
                                                  clear hi471_0 hl471_0
                                                  replace p471 := eq_true p471
                                                  replace q471 := eq_true q471
                                                  have p472 : 0 ≤ (a2 : Int) := of_decide_eq_true (by first | (with_reducible assumption) | assumption)
                                                  have q472 : a2 < ((rd_L1 t467 a1).length : Int) := of_decide_eq_true (by first | (with_reducible assumption) | assumption)
                                                  obtain ⟨ad472, e472, hx472_0⟩ := Kd.at_int (by repeat (first | (with_reducible exact HR471_0.out) | (with_reducible refine Kd.C_alloc ?_ _) | (with_reducible refine Kd.C_drewN ?_ _) | (with_reducible refine Kd.C_drew ?_) | exact HR471_0.out)) a2 p472 q472
                                                  cases e472
                                                  replace p472 := eq_true p472
                                                  replace q472 := eq_true q472
                                                  go_wp2
                                                  go_ret
                                                  exact ⟨by first | rfl | (simp [errW_none, errW_some] <;> rfl) | (simp [*, errW_none, errW_some] <;> rfl), by repeat (first | (with_reducible first | exact HB.out | apply below_alloc | apply pw_below_drewN | apply below_drew1) | exact HB.out)⟩
                                                · rw [if_neg c44] at H
                                                  exact absurd H (by simp)
                                              · rw [if_neg c43] at H
                                                exact absurd H (by simp)
                                            · rw [if_neg c42] at H
                                              exact absurd H (by simp)
                                          · rw [if_neg c41] at H
                                            exact absurd H (by simp)
                                        · rw [if_neg c40] at H
                                          have c40b0 : (a1 == a2) = false := beq_eq_false_iff_ne.mpr c40
                                          have c40b1 : (a1 != a2) = true := bne_iff_ne.mpr c40
                                          by_cases c46 : 0 ≤ a1
                                          · rw [if_pos c46] at H
                                            have c46b0 : decide (0 ≤ a1) = true := decide_eq_true c46
                                            clear c46
                                            by_cases c47 : a1 < (t467.length : Int)
                                            · rw [if_pos c47] at H
                                              have c47b0 : decide (a1 < (t467.length : Int)) = true := decide_eq_true c47
                                              clear c47
                                              by_cases c48 : 0 ≤ a2
                                              · rw [if_pos c48] at H
                                                have c48b0 : decide (0 ≤ a2) = true := decide_eq_true c48
                                                clear c48
                                                by_cases c49 : a2 < ((rd_L1 t467 a1).length : Int)
                                                · rw [if_pos c49] at H
                                                  have c49b0 : decide (a2 < ((rd_L1 t467 a1).length : Int)) = true := decide_eq_true c49
                                                  clear c49
                                                  obtain rfl := Option.some.inj H
                                                  obtain ⟨Ao50, co50, eo50⟩ := Kd.S_slice HO_9.out
                                                  subst eo50
                                                  have p473 : 0 ≤ (a1 : Int) := of_decide_eq_true (by first | (with_reducible assumption) | assumption)
                                                  have q473 : a1 < (t467.length : Int) := of_decide_eq_true (by first | (with_reducible assumption) | assumption)
                                                  obtain ⟨ad473, A473_0, c473_0, e473, hx473_0, hl473_0, hi473_0⟩ := at_L1 (Kd.S_reads' HO_9.out).2.2 a1 p473 q473
                                                  cases e473
                                                  obtain ⟨ce473, hce473, hMe473, hcc473⟩ := Kd.S_get HO_9.out [] a1 p473 (by first | exact q473 | exact of_decide_eq_true (by first | (with_reducible assumption) | assumption) | (have e_ := (Kd.S_reads' HO_9.out).1; omega))
                                                  obtain ⟨ve473_0, rfl, ge473_0⟩ := hMe473
                                                  have hv473_0 := hcc473 0 _ rfl
                                                  rw [Nat.add_zero, show ((Kd.slice 3 (Kd.int .i64))).sz = 1 from rfl, Nat.mul_one] at hv473_0
                                                  replace hv473_0 := Option.some.inj (hv473_0.symm.trans hx473_0)
                                                  rw [hv473_0] at ge473_0
                                                  have HL473_0 := Aside0.mk (show Kd.R (Kd.int .i64) 3 _ _ _ _ (rd_L1 t467 a1) from ge473_0)
                                                  clear hv473_0 ge473_0
                                                  clear hcc473 hce473
                                                  have HR473_0 := Aside0.mk hi473_0
                                                  have HC473_0 := Aside0.mk hl473_0
                                                  clear hi473_0 hl473_0
                                                  replace p473 := eq_true p473
                                                  replace q473 := eq_true q473
                                                  have p474 : 0 ≤ (a2 : Int) := of_decide_eq_true (by first | (with_reducible assumption) | assumption)
                                                  have q474 : a2 < ((rd_L1 t467 a1).length : Int) := of_decide_eq_true (by first | (with_reducible assumption) | assumption)
                                                  obtain ⟨ad474, e474, hx474_0⟩ := Kd.at_int (by repeat (first | (with_reducible exact HR473_0.out) | (with_reducible refine Kd.C_alloc ?_ _) | (with_reducible refine Kd.C_drewN ?_ _) | (with_reducible refine Kd.C_drew ?_) | exact HR473_0.out)) a2 p474 q474
                                                  cases e474
                                                  replace p474 := eq_true p474
                                                  replace q474 := eq_true q474
                                                  go_wp2
                                                  go_ret
                                                  exact ⟨by first | rfl | (simp [errW_none, errW_some] <;> rfl) | (simp [*, errW_none, errW_some] <;> rfl), by repeat (first | (with_reducible first | exact HB.out | apply below_alloc | apply pw_below_drewN | apply below_drew1) | exact HB.out)⟩
                                                · rw [if_neg c49] at H
                                                  exact absurd H (by simp)
                                              · rw [if_neg c48] at H
                                                exact absurd H (by simp)
                                            · rw [if_neg c47] at H
                                              exact absurd H (by simp)
                                          · rw [if_neg c46] at H
                                            exact absurd H (by simp)
                                · rw [if_neg c31] at H
                                  have c31b0 : (t464 == 0) = false := beq_eq_false_iff_ne.mpr c31
                                  have c31b1 : (t464 != 0) = true := bne_iff_ne.mpr c31
                                  by_cases c51 : t464 = 8
                                  · rw [if_pos c51] at H
                                    have c51b0 : (t464 == 8) = true := beq_iff_eq.mpr c51
                                    have c51b1 : (t464 != 8) = false := bne_eq_false_iff_eq.mpr c51
                                    clear c51
                                    obtain rfl := Option.some.inj H
                                    obtain ⟨Ao52, co52, eo52⟩ := Kd.S_slice HO_9.out
                                    subst eo52
                                    have p461 : 0 ≤ (a1 : Int) := of_decide_eq_true (by first | (with_reducible assumption) | assumption)
                                    have q461 : a1 < (t457.length : Int) := of_decide_eq_true (by first | (with_reducible assumption) | assumption)
                                    obtain ⟨ad461, A461_0, c461_0, e461, hx461_0, hl461_0, hi461_0⟩ := at_L1 (Kd.S_reads' HO_9.out).2.2 a1 p461 q461
                                    cases e461
                                    obtain ⟨ce461, hce461, hMe461, hcc461⟩ := Kd.S_get HO_9.out [] a1 p461 (by first | exact q461 | exact of_decide_eq_true (by first | (with_reducible assumption) | assumption) | (have e_ := (Kd.S_reads' HO_9.out).1; omega))
                                    obtain ⟨ve461_0, rfl, ge461_0⟩ := hMe461
                                    have hv461_0 := hcc461 0 _ rfl
                                    rw [Nat.add_zero, show ((Kd.slice 3 (Kd.int .i64))).sz = 1 from rfl, Nat.mul_one] at hv461_0
                                    replace hv461_0 := Option.some.inj (hv461_0.symm.trans hx461_0)
                                    rw [hv461_0] at ge461_0
                                    have HL461_0 := Aside0.mk (show Kd.R (Kd.int .i64) 3 _ _ _ _ (rd_L1 t457 a1) from ge461_0)
                                    clear hv461_0 ge461_0
                                    clear hcc461 hce461
                                    have HR461_0 := Aside0.mk hi461_0
                                    have HC461_0 := Aside0.mk hl461_0
                                    clear hi461_0 hl461_0
                                    replace p461 := eq_true p461
                                    replace q461 := eq_true q461
                                    have p462 : 0 ≤ (a2 : Int) := of_decide_eq_true (by first | (with_reducible assumption) | assumption)
                                    have q462 : a2 < ((rd_L1 t457 a1).length : Int) := of_decide_eq_true (by first | (with_reducible assumption) | assumption)
                                    obtain ⟨ad462, e462, hx462_0⟩ := Kd.at_int (by repeat (first | (with_reducible exact HR461_0.out) | (with_reducible refine Kd.C_alloc ?_ _) | (with_reducible refine Kd.C_drewN ?_ _) | (with_reducible refine Kd.C_drew ?_) | exact HR461_0.out)) a2 p462 q462
                                    cases e462
                                    replace p462 := eq_true p462
                                    replace q462 := eq_true q462
                                    go_wp2_with (first | ((with_reducible refine gate_callee (f := 15) rfl ?_); refine goesL_ (some 73) rfl rfl Try.func15 (by kernel_rfl) rfl #[.int .i64 a0] rfl (by (try simp only [List.map_toArray, List.map_cons, List.map_nil]); first | done | rfl | (simp only [List.length_drop, List.length_take]; rfl)) ?_; (with_reducible refine (rotation_Balanced.calls kj22 a0 t463 t464 _ A30.out).mono ?_); rintro e w53 ⟨v465, rfl, ho0, hb⟩; refine ⟨_, rfl, ?_⟩; have n0_ := Aside0.mk (Kd.S_elder' (by (with_reducible repeat (first | apply Kd.S_alloc | apply Kd.S_drewN | apply Kd.S_drew)); exact HO_9.out) (Kd.S_base ho0) hb); have n1_ := Aside0.mk (Kd.R_below (by (with_reducible repeat (first | apply Kd.R_alloc | apply Kd.R_drewN | apply Kd.R_drew)); exact HL461_0.out) hb); have n2_ := Aside0.mk (Kd.S_lower (Kd.S_new' (Kd.S_new' ho0 (Kd.S_lt (by (with_reducible repeat (first | apply Kd.S_alloc | apply Kd.S_drewN | apply Kd.S_drew)); exact HO_9.out))) (Kd.R_lt (by (with_reducible repeat (first | apply Kd.R_alloc | apply Kd.R_drewN | apply Kd.R_drew)); exact HL461_0.out))) (below_size (by repeat (first | (with_reducible first | exact HB.out | apply below_alloc | apply pw_below_drewN | apply below_drew1) | exact HB.out)))); have n3_ := Aside0.mk (Kd.C_below (by repeat (first | (with_reducible exact HR461_0.out) | (with_reducible refine Kd.C_alloc ?_ _) | (with_reducible refine Kd.C_drewN ?_ _) | (with_reducible refine Kd.C_drew ?_) | exact HR461_0.out)) hb); have n4_ := Aside0.mk (below_step (by repeat (first | (with_reducible first | exact HB.out | apply below_alloc | apply pw_below_drewN | apply below_drew1) | exact HB.out)) hb); clear HO_9; clear HL461_0; clear HR461_0; clear HB; have HO_9 := n0_; have HL461_0 := n1_; have HO466 := n2_; have HR461_0 := n3_; have HB := n4_; clear n0_ n1_ n2_ n3_ n4_; (try clear hb); (try clear hb2); (try clear hk); (try clear hi); (try clear ho0)))
                                    go_ret
                                    exact ⟨by first | rfl | (simp [errW_none, errW_some] <;> rfl) | (simp [*, errW_none, errW_some] <;> rfl), by repeat (first | (with_reducible first | exact HB.out | apply below_alloc | apply pw_below_drewN | apply below_drew1) | exact HB.out)⟩
                                  · rw [if_neg c51] at H
                                    have c51b0 : (t464 == 8) = false := beq_eq_false_iff_ne.mpr c51
                                    have c51b1 : (t464 != 8) = true := bne_iff_ne.mpr c51
                                    obtain rfl := Option.some.inj H
                                    obtain ⟨Ao54, co54, eo54⟩ := Kd.S_slice HO_9.out
                                    subst eo54
                                    have p461 : 0 ≤ (a1 : Int) := of_decide_eq_true (by first | (with_reducible assumption) | assumption)
                                    have q461 : a1 < (t457.length : Int) := of_decide_eq_true (by first | (with_reducible assumption) | assumption)
                                    obtain ⟨ad461, A461_0, c461_0, e461, hx461_0, hl461_0, hi461_0⟩ := at_L1 (Kd.S_reads' HO_9.out).2.2 a1 p461 q461
                                    cases e461
                                    obtain ⟨ce461, hce461, hMe461, hcc461⟩ := Kd.S_get HO_9.out [] a1 p461 (by first | exact q461 | exact of_decide_eq_true (by first | (with_reducible assumption) | assumption) | (have e_ := (Kd.S_reads' HO_9.out).1; omega))
                                    obtain ⟨ve461_0, rfl, ge461_0⟩ := hMe461
                                    have hv461_0 := hcc461 0 _ rfl
                                    rw [Nat.add_zero, show ((Kd.slice 3 (Kd.int .i64))).sz = 1 from rfl, Nat.mul_one] at hv461_0
                                    replace hv461_0 := Option.some.inj (hv461_0.symm.trans hx461_0)
                                    rw [hv461_0] at ge461_0
                                    have HL461_0 := Aside0.mk (show Kd.R (Kd.int .i64) 3 _ _ _ _ (rd_L1 t457 a1) from ge461_0)
                                    clear hv461_0 ge461_0
                                    clear hcc461 hce461
                                    have HR461_0 := Aside0.mk hi461_0
                                    have HC461_0 := Aside0.mk hl461_0
                                    clear hi461_0 hl461_0
                                    replace p461 := eq_true p461
                                    replace q461 := eq_true q461
                                    have p462 : 0 ≤ (a2 : Int) := of_decide_eq_true (by first | (with_reducible assumption) | assumption)
                                    have q462 : a2 < ((rd_L1 t457 a1).length : Int) := of_decide_eq_true (by first | (with_reducible assumption) | assumption)
                                    obtain ⟨ad462, e462, hx462_0⟩ := Kd.at_int (by repeat (first | (with_reducible exact HR461_0.out) | (with_reducible refine Kd.C_alloc ?_ _) | (with_reducible refine Kd.C_drewN ?_ _) | (with_reducible refine Kd.C_drew ?_) | exact HR461_0.out)) a2 p462 q462
                                    cases e462
                                    replace p462 := eq_true p462
                                    replace q462 := eq_true q462
                                    go_wp2_with (first | ((with_reducible refine gate_callee (f := 15) rfl ?_); refine goesL_ (some 73) rfl rfl Try.func15 (by kernel_rfl) rfl #[.int .i64 a0] rfl (by (try simp only [List.map_toArray, List.map_cons, List.map_nil]); first | done | rfl | (simp only [List.length_drop, List.length_take]; rfl)) ?_; (with_reducible refine (rotation_Balanced.calls kj22 a0 t463 t464 _ A30.out).mono ?_); rintro e w55 ⟨v465, rfl, ho0, hb⟩; refine ⟨_, rfl, ?_⟩; have n0_ := Aside0.mk (Kd.S_elder' (by (with_reducible repeat (first | apply Kd.S_alloc | apply Kd.S_drewN | apply Kd.S_drew)); exact HO_9.out) (Kd.S_base ho0) hb); have n1_ := Aside0.mk (Kd.R_below (by (with_reducible repeat (first | apply Kd.R_alloc | apply Kd.R_drewN | apply Kd.R_drew)); exact HL461_0.out) hb); have n2_ := Aside0.mk (Kd.S_lower (Kd.S_new' (Kd.S_new' ho0 (Kd.S_lt (by (with_reducible repeat (first | apply Kd.S_alloc | apply Kd.S_drewN | apply Kd.S_drew)); exact HO_9.out))) (Kd.R_lt (by (with_reducible repeat (first | apply Kd.R_alloc | apply Kd.R_drewN | apply Kd.R_drew)); exact HL461_0.out))) (below_size (by repeat (first | (with_reducible first | exact HB.out | apply below_alloc | apply pw_below_drewN | apply below_drew1) | exact HB.out)))); have n3_ := Aside0.mk (Kd.C_below (by repeat (first | (with_reducible exact HR461_0.out) | (with_reducible refine Kd.C_alloc ?_ _) | (with_reducible refine Kd.C_drewN ?_ _) | (with_reducible refine Kd.C_drew ?_) | exact HR461_0.out)) hb); have n4_ := Aside0.mk (below_step (by repeat (first | (with_reducible first | exact HB.out | apply below_alloc | apply pw_below_drewN | apply below_drew1) | exact HB.out)) hb); clear HO_9; clear HL461_0; clear HR461_0; clear HB; have HO_9 := n0_; have HL461_0 := n1_; have HO466 := n2_; have HR461_0 := n3_; have HB := n4_; clear n0_ n1_ n2_ n3_ n4_; (try clear hb); (try clear hb2); (try clear hk); (try clear hi); (try clear ho0)))
                                    go_ret
                                    exact ⟨by first | rfl | (simp [errW_none, errW_some] <;> rfl) | (simp [*, errW_none, errW_some] <;> rfl), by repeat (first | (with_reducible first | exact HB.out | apply below_alloc | apply pw_below_drewN | apply below_drew1) | exact HB.out)⟩
                              · rw [if_neg c29] at H
                                have c29b0 : ((rd (rd_L1 t457 a1) a2) == x11_22) = false := beq_eq_false_iff_ne.mpr c29
                                have c29b1 : ((rd (rd_L1 t457 a1) a2) != x11_22) = true := bne_iff_ne.mpr c29
                                obtain rfl := Option.some.inj H
                                obtain ⟨Ao56, co56, eo56⟩ := Kd.S_slice HO_9.out
                                subst eo56
                                have p461 : 0 ≤ (a1 : Int) := of_decide_eq_true (by first | (with_reducible assumption) | assumption)
                                have q461 : a1 < (t457.length : Int) := of_decide_eq_true (by first | (with_reducible assumption) | assumption)
                                obtain ⟨ad461, A461_0, c461_0, e461, hx461_0, hl461_0, hi461_0⟩ := at_L1 (Kd.S_reads' HO_9.out).2.2 a1 p461 q461
                                cases e461
                                obtain ⟨ce461, hce461, hMe461, hcc461⟩ := Kd.S_get HO_9.out [] a1 p461 (by first | exact q461 | exact of_decide_eq_true (by first | (with_reducible assumption) | assumption) | (have e_ := (Kd.S_reads' HO_9.out).1; omega))
                                obtain ⟨ve461_0, rfl, ge461_0⟩ := hMe461
                                have hv461_0 := hcc461 0 _ rfl
                                rw [Nat.add_zero, show ((Kd.slice 3 (Kd.int .i64))).sz = 1 from rfl, Nat.mul_one] at hv461_0
                                replace hv461_0 := Option.some.inj (hv461_0.symm.trans hx461_0)
                                rw [hv461_0] at ge461_0
                                have HL461_0 := Aside0.mk (show Kd.R (Kd.int .i64) 3 _ _ _ _ (rd_L1 t457 a1) from ge461_0)
                                clear hv461_0 ge461_0
                                clear hcc461 hce461
                                have HR461_0 := Aside0.mk hi461_0
                                have HC461_0 := Aside0.mk hl461_0
                                clear hi461_0 hl461_0
                                replace p461 := eq_true p461
                                replace q461 := eq_true q461
                                have p462 : 0 ≤ (a2 : Int) := of_decide_eq_true (by first | (with_reducible assumption) | assumption)
                                have q462 : a2 < ((rd_L1 t457 a1).length : Int) := of_decide_eq_true (by first | (with_reducible assumption) | assumption)
                                obtain ⟨ad462, e462, hx462_0⟩ := Kd.at_int (by repeat (first | (with_reducible exact HR461_0.out) | (with_reducible refine Kd.C_alloc ?_ _) | (with_reducible refine Kd.C_drewN ?_ _) | (with_reducible refine Kd.C_drew ?_) | exact HR461_0.out)) a2 p462 q462
                                cases e462
                                replace p462 := eq_true p462
                                replace q462 := eq_true q462
                                go_wp2
                                go_ret
                                exact ⟨by first | rfl | (simp [errW_none, errW_some] <;> rfl) | (simp [*, errW_none, errW_some] <;> rfl), by repeat (first | (with_reducible first | exact HB.out | apply below_alloc | apply pw_below_drewN | apply below_drew1) | exact HB.out)⟩
                            · rw [if_neg c28] at H
                              exact absurd H (by simp)
                          · rw [if_neg c27] at H
                            exact absurd H (by simp)
                        · rw [if_neg c26] at H
                          exact absurd H (by simp)
                      · rw [if_neg c25] at H
                        exact absurd H (by simp)
  · replace c5 := Bool.eq_false_iff.mpr c5
    subst c5
    have H1 : (some false) = some r := by rw [if_neg (show ¬ (false = true) by decide)] at H; exact H
    clear H
    have H := H1
    clear H1
    obtain rfl := Option.some.inj H
    go_enter Try.func9, Try.ntmps9
    go_wp2_with (first | ((with_reducible refine gate_callee (f := 13) rfl ?_); refine goesL_ (some 12) rfl rfl Try.func13 (by kernel_rfl) rfl #[] rfl (by (try simp only [List.map_toArray, List.map_cons, List.map_nil]); first | done | rfl | (simp only [List.length_drop, List.length_take]; rfl)) ?_; (with_reducible refine (salchowlaw36_awake.calls k  false _ A4.out).mono ?_); rintro e w57 ⟨rfl, hb⟩; refine ⟨_, rfl, ?_⟩; have n0_ := Aside0.mk (below_step (by repeat (first | (with_reducible first | exact HB.out | apply below_alloc | apply pw_below_drewN | apply below_drew1) | exact HB.out)) hb); clear HB; have HB := n0_; clear n0_; (try clear hb); (try clear hb2); (try clear hk); (try clear hi)))
    go_ret
    exact ⟨by first | rfl | (simp [errW_none, errW_some] <;> rfl) | (simp [*, errW_none, errW_some] <;> rfl), by repeat (first | (with_reducible first | exact HB.out | apply below_alloc | apply pw_below_drewN | apply below_drew1) | exact HB.out)⟩

/-- THE ONE PURE STATEMENT of salchowlaw36_RotationBalance: yours. -/
def salchowlaw36_RotationBalance.Pure : Prop := ∀ (a0 : Int) (a1 : Int) (a2 : Int), (Lit.int .i64 a0).wf = true → (Lit.int .i64 a1).wf = true → (Lit.int .i64 a2).wf = true → ∃ k, salchowlaw36_RotationBalance.f k a0 a1 a2 = some true
theorem salchowlaw36_RotationBalance.walk (P : salchowlaw36_RotationBalance.Pure) (a0 : Int) (a1 : Int) (a2 : Int) (w : World) (w0 : (Lit.int .i64 a0).wf = true) (w1 : (Lit.int .i64 a1).wf = true) (w2 : (Lit.int .i64 a2).wf = true) :
    Calls Try.prog 9 #[.int .i64 a0, .int .i64 a1, .int .i64 a2] w fun e w' => e = .returned (.bool true) ∧ Below w.heap.size w w' := by
  obtain ⟨k, h⟩ := P a0 a1 a2 w0 w1 w2
  refine (salchowlaw36_RotationBalance.calls k a0 a1 a2 true w h).mono ?_
  rintro e w' ⟨rfl, hd⟩
  exact ⟨rfl, hd⟩

end Go.Proofs.Ytaodpgblleiiaaa.P
