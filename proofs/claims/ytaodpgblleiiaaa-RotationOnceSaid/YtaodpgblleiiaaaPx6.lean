-- out of a program (drive.sh), by way of the translation's print
import Derived.Test.YtaodpgblleiiaaaPx0
import Derived.Test.YtaodpgblleiiaaaPx1
import Derived.Test.YtaodpgblleiiaaaPx2
import Derived.Test.YtaodpgblleiiaaaPx4
namespace Go.Proofs.Ytaodpgblleiiaaa.P
open Go.RowKit Go.Proofs.YtaodpgblleiiaaaW.PrintWords Go.Proofs.YtaodpgblleiiaaaW.PrintLast Go.Proofs.YtaodpgblleiiaaaW.PrintMore
attribute [local go_sem] max2_int min2_int max_two min_two max_three min_three max_four min_four   -- for this text's walks alone
set_option linter.unusedVariables false
set_option linter.unusedSimpArgs false

/-! ### salchowlaw36_RotationOnce: function 4 -/
mutual
def salchowlaw36_RotationOnce.j0 : Nat → Int → Int → Int → Int → Bool → Option (Bool)
  | 0, _, _, _, _, _ => none
  | k + 1, x0, x1, x2, x3, x48 => if x48 = true then (some true) else (salchowlaw36_RotationOnce.l0 k x0 x1 x2 x3 0)
def salchowlaw36_RotationOnce.l0 : Nat → Int → Int → Int → Int → Int → Option (Bool)
  | 0, _, _, _, _, _ => none
  | k + 1, x0, x1, x2, x3, x9 => if x9 < 2 then ((rotation_Cyclic.f k x0).bind fun bt290 => (if x9 = 1 then ((rotation_Balanced.f k x0).bind fun bt294 => (salchowlaw36_RotationOnce.j2 k x0 x1 x2 x3 x9 bt294.1 bt294.2)) else (salchowlaw36_RotationOnce.j2 k x0 x1 x2 x3 x9 bt290.1 bt290.2))) else (some true)
def salchowlaw36_RotationOnce.j2 : Nat → Int → Int → Int → Int → Int → List (List Int) → Int → Option (Bool)
  | 0, _, _, _, _, _, _, _ => none
  | k + 1, x0, x1, x2, x3, x9, x10, x11 => if x11 = 0 then ((rotation_Latin.f k x10).bind fun t298 => (if t298 = true then (salchowlaw36_RotationOnce.l1 k x0 x1 x2 x3 x9 x10 0 0) else (some false))) else (if x9 = 0 then (some false) else (if (Int.tmod x0 2) = 0 then (some false) else (salchowlaw36_RotationOnce.l0 k x0 x1 x2 x3 (wrap64 (x9 + 1)))))
def salchowlaw36_RotationOnce.l1 : Nat → Int → Int → Int → Int → Int → List (List Int) → Int → Int → Option (Bool)
  | 0, _, _, _, _, _, _, _, _ => none
  | k + 1, x0, x1, x2, x3, x9, x10, x12, x13 => if x13 < x0 then (if 0 ≤ x13 then (if x13 < (x10.length : Int) then (if 0 ≤ x1 then (if x1 < ((rd_L1 x10 x13).length : Int) then (if (rd (rd_L1 x10 x13) x1) = x3 then (if x1 = x2 then (salchowlaw36_RotationOnce.l1 k x0 x1 x2 x3 x9 x10 (wrap64 (x12 + 1)) (wrap64 (x13 + 1))) else (if 0 ≤ x2 then (if x2 < ((rd_L1 x10 x13).length : Int) then (if (rd (rd_L1 x10 x13) x1) = (rd (rd_L1 x10 x13) x2) then (some false) else (salchowlaw36_RotationOnce.l1 k x0 x1 x2 x3 x9 x10 (wrap64 (x12 + 1)) (wrap64 (x13 + 1)))) else (none)) else (none))) else (if x1 = x2 then (salchowlaw36_RotationOnce.l1 k x0 x1 x2 x3 x9 x10 x12 (wrap64 (x13 + 1))) else (if 0 ≤ x2 then (if x2 < ((rd_L1 x10 x13).length : Int) then (if (rd (rd_L1 x10 x13) x1) = (rd (rd_L1 x10 x13) x2) then (some false) else (salchowlaw36_RotationOnce.l1 k x0 x1 x2 x3 x9 x10 x12 (wrap64 (x13 + 1)))) else (none)) else (none)))) else (none)) else (none)) else (none)) else (none)) else (if x12 = 1 then (salchowlaw36_RotationOnce.l0 k x0 x1 x2 x3 (wrap64 (x9 + 1))) else (some false))
end
def salchowlaw36_RotationOnce.f (k : Nat) (a0 : Int) (a1 : Int) (a2 : Int) (a3 : Int) : Option (Bool) := (salchowlaw36_awake.f k).bind fun t289 => (if t289 = true then (if a0 < 1 then (salchowlaw36_RotationOnce.j0 k a0 a1 a2 a3 true) else (if a0 > 64 then (salchowlaw36_RotationOnce.j0 k a0 a1 a2 a3 true) else (if a1 < 0 then (salchowlaw36_RotationOnce.j0 k a0 a1 a2 a3 true) else (if a1 ≥ a0 then (salchowlaw36_RotationOnce.j0 k a0 a1 a2 a3 true) else (if a2 < 0 then (salchowlaw36_RotationOnce.j0 k a0 a1 a2 a3 true) else (if a2 ≥ a0 then (salchowlaw36_RotationOnce.j0 k a0 a1 a2 a3 true) else (if a3 < 0 then (salchowlaw36_RotationOnce.j0 k a0 a1 a2 a3 true) else (salchowlaw36_RotationOnce.j0 k a0 a1 a2 a3 (decide (a3 ≥ a0)))))))))) else (some false))
theorem salchowlaw36_RotationOnce.mono_l : ∀ k, (∀ y0 y1 y2 y3 y4, LeO (salchowlaw36_RotationOnce.j0 k y0 y1 y2 y3 y4) (salchowlaw36_RotationOnce.j0 (k + 1) y0 y1 y2 y3 y4)) ∧ (∀ y0 y1 y2 y3 y4, LeO (salchowlaw36_RotationOnce.l0 k y0 y1 y2 y3 y4) (salchowlaw36_RotationOnce.l0 (k + 1) y0 y1 y2 y3 y4)) ∧ (∀ y0 y1 y2 y3 y4 y5 y6, LeO (salchowlaw36_RotationOnce.j2 k y0 y1 y2 y3 y4 y5 y6) (salchowlaw36_RotationOnce.j2 (k + 1) y0 y1 y2 y3 y4 y5 y6)) ∧ (∀ y0 y1 y2 y3 y4 y5 y6 y7, LeO (salchowlaw36_RotationOnce.l1 k y0 y1 y2 y3 y4 y5 y6 y7) (salchowlaw36_RotationOnce.l1 (k + 1) y0 y1 y2 y3 y4 y5 y6 y7))
  | 0 => ⟨fun _ _ _ _ _ r h => by simp [salchowlaw36_RotationOnce.j0] at h, fun _ _ _ _ _ r h => by simp [salchowlaw36_RotationOnce.l0] at h, fun _ _ _ _ _ _ _ r h => by simp [salchowlaw36_RotationOnce.j2] at h, fun _ _ _ _ _ _ _ _ r h => by simp [salchowlaw36_RotationOnce.l1] at h⟩
  | k + 1 => by
    obtain ⟨ih0, ih1, ih2, ih3⟩ := salchowlaw36_RotationOnce.mono_l k
    refine ⟨?_, ?_, ?_, ?_⟩
    · intro y0 y1 y2 y3 y4
      unfold salchowlaw36_RotationOnce.j0
      repeat' first
      | (with_reducible exact ih0 _ _ _ _ _)
      | (with_reducible exact ih1 _ _ _ _ _)
      | (with_reducible exact ih2 _ _ _ _ _ _ _)
      | (with_reducible exact ih3 _ _ _ _ _ _ _ _)
      | (with_reducible exact rotation_Balanced.mono _ _)
      | (with_reducible exact rotation_Cyclic.mono _ _)
      | (with_reducible exact rotation_Latin.mono _ _)
      | (with_reducible exact salchowlaw36_awake.mono _)
      | (with_reducible exact LeO.refl _)
      | (with_reducible exact LeO.none _)
      | (with_reducible refine LeO.ite ?_ ?_)
      | (with_reducible refine LeO.bind ?_ (fun _ => ?_))
      | exact ih0 _ _ _ _ _
      | exact ih1 _ _ _ _ _
      | exact ih2 _ _ _ _ _ _ _
      | exact ih3 _ _ _ _ _ _ _ _
      | exact rotation_Balanced.mono _ _
      | exact rotation_Cyclic.mono _ _
      | exact rotation_Latin.mono _ _
      | exact salchowlaw36_awake.mono _
      | exact LeO.none _
      | refine LeO.ite ?_ ?_
      | refine LeO.bind ?_ (fun _ => ?_)
    · intro y0 y1 y2 y3 y4
      unfold salchowlaw36_RotationOnce.l0
      repeat' first
      | (with_reducible exact ih0 _ _ _ _ _)
      | (with_reducible exact ih1 _ _ _ _ _)
      | (with_reducible exact ih2 _ _ _ _ _ _ _)
      | (with_reducible exact ih3 _ _ _ _ _ _ _ _)
      | (with_reducible exact rotation_Balanced.mono _ _)
      | (with_reducible exact rotation_Cyclic.mono _ _)
      | (with_reducible exact rotation_Latin.mono _ _)
      | (with_reducible exact salchowlaw36_awake.mono _)
      | (with_reducible exact LeO.refl _)
      | (with_reducible exact LeO.none _)
      | (with_reducible refine LeO.ite ?_ ?_)
      | (with_reducible refine LeO.bind ?_ (fun _ => ?_))
      | exact ih0 _ _ _ _ _
      | exact ih1 _ _ _ _ _
      | exact ih2 _ _ _ _ _ _ _
      | exact ih3 _ _ _ _ _ _ _ _
      | exact rotation_Balanced.mono _ _
      | exact rotation_Cyclic.mono _ _
      | exact rotation_Latin.mono _ _
      | exact salchowlaw36_awake.mono _
      | exact LeO.none _
      | refine LeO.ite ?_ ?_
      | refine LeO.bind ?_ (fun _ => ?_)
    · intro y0 y1 y2 y3 y4 y5 y6
      unfold salchowlaw36_RotationOnce.j2
      repeat' first
      | (with_reducible exact ih0 _ _ _ _ _)
      | (with_reducible exact ih1 _ _ _ _ _)
      | (with_reducible exact ih2 _ _ _ _ _ _ _)
      | (with_reducible exact ih3 _ _ _ _ _ _ _ _)
      | (with_reducible exact rotation_Balanced.mono _ _)
      | (with_reducible exact rotation_Cyclic.mono _ _)
      | (with_reducible exact rotation_Latin.mono _ _)
      | (with_reducible exact salchowlaw36_awake.mono _)
      | (with_reducible exact LeO.refl _)
      | (with_reducible exact LeO.none _)
      | (with_reducible refine LeO.ite ?_ ?_)
      | (with_reducible refine LeO.bind ?_ (fun _ => ?_))
      | exact ih0 _ _ _ _ _
      | exact ih1 _ _ _ _ _
      | exact ih2 _ _ _ _ _ _ _
      | exact ih3 _ _ _ _ _ _ _ _
      | exact rotation_Balanced.mono _ _
      | exact rotation_Cyclic.mono _ _
      | exact rotation_Latin.mono _ _
      | exact salchowlaw36_awake.mono _
      | exact LeO.none _
      | refine LeO.ite ?_ ?_
      | refine LeO.bind ?_ (fun _ => ?_)
    · intro y0 y1 y2 y3 y4 y5 y6 y7
      unfold salchowlaw36_RotationOnce.l1
      repeat' first
      | (with_reducible exact ih0 _ _ _ _ _)
      | (with_reducible exact ih1 _ _ _ _ _)
      | (with_reducible exact ih2 _ _ _ _ _ _ _)
      | (with_reducible exact ih3 _ _ _ _ _ _ _ _)
      | (with_reducible exact rotation_Balanced.mono _ _)
      | (with_reducible exact rotation_Cyclic.mono _ _)
      | (with_reducible exact rotation_Latin.mono _ _)
      | (with_reducible exact salchowlaw36_awake.mono _)
      | (with_reducible exact LeO.refl _)
      | (with_reducible exact LeO.none _)
      | (with_reducible refine LeO.ite ?_ ?_)
      | (with_reducible refine LeO.bind ?_ (fun _ => ?_))
      | exact ih0 _ _ _ _ _
      | exact ih1 _ _ _ _ _
      | exact ih2 _ _ _ _ _ _ _
      | exact ih3 _ _ _ _ _ _ _ _
      | exact rotation_Balanced.mono _ _
      | exact rotation_Cyclic.mono _ _
      | exact rotation_Latin.mono _ _
      | exact salchowlaw36_awake.mono _
      | exact LeO.none _
      | refine LeO.ite ?_ ?_
      | refine LeO.bind ?_ (fun _ => ?_)
theorem salchowlaw36_RotationOnce.mono : ∀ a0 a1 a2 a3 k, LeO (salchowlaw36_RotationOnce.f k a0 a1 a2 a3) (salchowlaw36_RotationOnce.f (k + 1) a0 a1 a2 a3) := by
  intro a0 a1 a2 a3 k
  obtain ⟨ih0, ih1, ih2, ih3⟩ := salchowlaw36_RotationOnce.mono_l k
  unfold salchowlaw36_RotationOnce.f
  repeat' first
      | (with_reducible exact ih0 _ _ _ _ _)
      | (with_reducible exact ih1 _ _ _ _ _)
      | (with_reducible exact ih2 _ _ _ _ _ _ _)
      | (with_reducible exact ih3 _ _ _ _ _ _ _ _)
      | (with_reducible exact rotation_Balanced.mono _ _)
      | (with_reducible exact rotation_Cyclic.mono _ _)
      | (with_reducible exact rotation_Latin.mono _ _)
      | (with_reducible exact salchowlaw36_awake.mono _)
      | (with_reducible exact LeO.refl _)
      | (with_reducible exact LeO.none _)
      | (with_reducible refine LeO.ite ?_ ?_)
      | (with_reducible refine LeO.bind ?_ (fun _ => ?_))
      | exact ih0 _ _ _ _ _
      | exact ih1 _ _ _ _ _
      | exact ih2 _ _ _ _ _ _ _
      | exact ih3 _ _ _ _ _ _ _ _
      | exact rotation_Balanced.mono _ _
      | exact rotation_Cyclic.mono _ _
      | exact rotation_Latin.mono _ _
      | exact salchowlaw36_awake.mono _
      | exact LeO.none _
      | refine LeO.ite ?_ ?_
      | refine LeO.bind ?_ (fun _ => ?_)
set_option maxHeartbeats 8000000 in
set_option maxRecDepth 100000 in
theorem salchowlaw36_RotationOnce.calls (k : Nat) (a0 : Int) (a1 : Int) (a2 : Int) (a3 : Int) (r : Bool) (w : World) (h : salchowlaw36_RotationOnce.f k a0 a1 a2 a3 = some r) :
    Calls Try.prog 4 #[.int .i64 a0, .int .i64 a1, .int .i64 a2, .int .i64 a3] w fun e w' => e = .returned (.bool r) ∧ Below w.heap.size w w' := by
  have HB := Aside0.mk (Below.refl w.heap.size w)
  have H : ((salchowlaw36_awake.f k).bind fun t289 => (if t289 = true then (if a0 < 1 then (salchowlaw36_RotationOnce.j0 k a0 a1 a2 a3 true) else (if a0 > 64 then (salchowlaw36_RotationOnce.j0 k a0 a1 a2 a3 true) else (if a1 < 0 then (salchowlaw36_RotationOnce.j0 k a0 a1 a2 a3 true) else (if a1 ≥ a0 then (salchowlaw36_RotationOnce.j0 k a0 a1 a2 a3 true) else (if a2 < 0 then (salchowlaw36_RotationOnce.j0 k a0 a1 a2 a3 true) else (if a2 ≥ a0 then (salchowlaw36_RotationOnce.j0 k a0 a1 a2 a3 true) else (if a3 < 0 then (salchowlaw36_RotationOnce.j0 k a0 a1 a2 a3 true) else (salchowlaw36_RotationOnce.j0 k a0 a1 a2 a3 (decide (a3 ≥ a0)))))))))) else (some false))) = some r := h
  clear h
  replace H := Option.bind_eq_some_iff.mp H
  obtain ⟨t289, A50, H⟩ := H
  replace H : (if t289 = true then (if a0 < 1 then (salchowlaw36_RotationOnce.j0 k a0 a1 a2 a3 true) else (if a0 > 64 then (salchowlaw36_RotationOnce.j0 k a0 a1 a2 a3 true) else (if a1 < 0 then (salchowlaw36_RotationOnce.j0 k a0 a1 a2 a3 true) else (if a1 ≥ a0 then (salchowlaw36_RotationOnce.j0 k a0 a1 a2 a3 true) else (if a2 < 0 then (salchowlaw36_RotationOnce.j0 k a0 a1 a2 a3 true) else (if a2 ≥ a0 then (salchowlaw36_RotationOnce.j0 k a0 a1 a2 a3 true) else (if a3 < 0 then (salchowlaw36_RotationOnce.j0 k a0 a1 a2 a3 true) else (salchowlaw36_RotationOnce.j0 k a0 a1 a2 a3 (decide (a3 ≥ a0)))))))))) else (some false)) = some r := H
  have A5 := Aside0.mk A50
  clear A50
  by_cases c6 : t289 = true
  · subst c6
    have H1 : (if a0 < 1 then (salchowlaw36_RotationOnce.j0 k a0 a1 a2 a3 true) else (if a0 > 64 then (salchowlaw36_RotationOnce.j0 k a0 a1 a2 a3 true) else (if a1 < 0 then (salchowlaw36_RotationOnce.j0 k a0 a1 a2 a3 true) else (if a1 ≥ a0 then (salchowlaw36_RotationOnce.j0 k a0 a1 a2 a3 true) else (if a2 < 0 then (salchowlaw36_RotationOnce.j0 k a0 a1 a2 a3 true) else (if a2 ≥ a0 then (salchowlaw36_RotationOnce.j0 k a0 a1 a2 a3 true) else (if a3 < 0 then (salchowlaw36_RotationOnce.j0 k a0 a1 a2 a3 true) else (salchowlaw36_RotationOnce.j0 k a0 a1 a2 a3 (decide (a3 ≥ a0)))))))))) = some r := by rw [if_pos rfl] at H; exact H
    clear H
    have H := H1
    clear H1
    have HC7 := Aside0.mk H
    clear H
    go_enter Try.func4, Try.ntmps4
    go_upto_region 3 with (first | (go_at_call 13; (with_reducible refine (salchowlaw36_awake.calls k  true _ A5.out).mono ?_); rintro e w8 ⟨rfl, hb⟩; have n0_ := Aside0.mk (below_step (by repeat (first | (with_reducible first | exact HB.out | apply below_alloc | apply pw_below_drewN | apply below_drew1) | exact HB.out)) hb); clear HB; have HB := n0_; clear n0_; (try clear hb); (try clear hb2); (try clear hk); (try clear hi)))
    repeat (go_quiet (first | (go_at_call 13; (with_reducible refine (salchowlaw36_awake.calls k  true _ A5.out).mono ?_); rintro e w8 ⟨rfl, hb⟩; have n0_ := Aside0.mk (below_step (by repeat (first | (with_reducible first | exact HB.out | apply below_alloc | apply pw_below_drewN | apply below_drew1) | exact HB.out)) hb); clear HB; have HB := n0_; clear n0_; (try clear hb); (try clear hb2); (try clear hk); (try clear hi))); go_upto_region 3 with (first | (go_at_call 13; (with_reducible refine (salchowlaw36_awake.calls k  true _ A5.out).mono ?_); rintro e w8 ⟨rfl, hb⟩; have n0_ := Aside0.mk (below_step (by repeat (first | (with_reducible first | exact HB.out | apply below_alloc | apply pw_below_drewN | apply below_drew1) | exact HB.out)) hb); clear HB; have HB := n0_; clear n0_; (try clear hb); (try clear hb2); (try clear hk); (try clear hi))))
    (try simp only [Act.put, List.setIfInBounds_toArray, List.set_cons_zero, List.set_cons_succ])
    go_cut [48] (fun v48 wc => ∃ (kq : Nat) (x48_6 : Bool), v48 = .bool x48_6 ∧ Aside0 (salchowlaw36_RotationOnce.j0 kq a0 a1 a2 a3 x48_6 = some r) ∧ Aside0 (kq ≤ k) ∧ Aside0 (Below w.heap.size w wc))
    case first =>
      have H := HC7.out
      clear HC7
      by_cases c9 : a0 < 1
      · rw [if_pos c9] at H
        have c9b0 : decide (a0 < 1) = true := decide_eq_true c9
        clear c9
        (first | rw [c9b0] | (simp only [i64_w, i32_w]; rw [c9b0]) | skip)
        have H' := Aside0.mk H
        clear H
        go_wp2
        repeat (go_quiet (fail); try go_wp2)
        go_meet
        case rel => exact ⟨_, (true), (by first | rfl | (simp; done) | (simp [*]; done)), H', ⟨by first | omega | exact Nat.le_refl _⟩, ⟨by repeat (first | (with_reducible first | exact HB.out | apply below_alloc | apply pw_below_drewN | apply below_drew1) | exact HB.out)⟩⟩
      · rw [if_neg c9] at H
        have c9b0 : decide (a0 < 1) = false := decide_eq_false c9
        clear c9
        (first | rw [c9b0] | (simp only [i64_w, i32_w]; rw [c9b0]) | skip)
        by_cases c10 : a0 > 64
        · rw [if_pos c10] at H
          have c10b0 : decide (64 < a0) = true := decide_eq_true c10
          clear c10
          have H' := Aside0.mk H
          clear H
          go_wp2
          repeat (go_quiet (fail); try go_wp2)
          go_meet
          case rel => exact ⟨_, (true), (by first | rfl | (simp; done) | (simp [*]; done)), H', ⟨by first | omega | exact Nat.le_refl _⟩, ⟨by repeat (first | (with_reducible first | exact HB.out | apply below_alloc | apply pw_below_drewN | apply below_drew1) | exact HB.out)⟩⟩
        · rw [if_neg c10] at H
          have c10b0 : decide (64 < a0) = false := decide_eq_false c10
          clear c10
          by_cases c11 : a1 < 0
          · rw [if_pos c11] at H
            have c11b0 : decide (a1 < 0) = true := decide_eq_true c11
            clear c11
            have H' := Aside0.mk H
            clear H
            go_wp2
            repeat (go_quiet (fail); try go_wp2)
            go_meet
            case rel => exact ⟨_, (true), (by first | rfl | (simp; done) | (simp [*]; done)), H', ⟨by first | omega | exact Nat.le_refl _⟩, ⟨by repeat (first | (with_reducible first | exact HB.out | apply below_alloc | apply pw_below_drewN | apply below_drew1) | exact HB.out)⟩⟩
          · rw [if_neg c11] at H
            have c11b0 : decide (a1 < 0) = false := decide_eq_false c11
            clear c11
            by_cases c12 : a1 ≥ a0
            · rw [if_pos c12] at H
              have c12b0 : decide (a0 ≤ a1) = true := decide_eq_true c12
              clear c12
              have H' := Aside0.mk H
              clear H
              go_wp2
              repeat (go_quiet (fail); try go_wp2)
              go_meet
              case rel => exact ⟨_, (true), (by first | rfl | (simp; done) | (simp [*]; done)), H', ⟨by first | omega | exact Nat.le_refl _⟩, ⟨by repeat (first | (with_reducible first | exact HB.out | apply below_alloc | apply pw_below_drewN | apply below_drew1) | exact HB.out)⟩⟩
            · rw [if_neg c12] at H
              have c12b0 : decide (a0 ≤ a1) = false := decide_eq_false c12
              clear c12
              by_cases c13 : a2 < 0
              · rw [if_pos c13] at H
                have c13b0 : decide (a2 < 0) = true := decide_eq_true c13
                clear c13
                have H' := Aside0.mk H
                clear H
                go_wp2
                repeat (go_quiet (fail); try go_wp2)
                go_meet
                case rel => exact ⟨_, (true), (by first | rfl | (simp; done) | (simp [*]; done)), H', ⟨by first | omega | exact Nat.le_refl _⟩, ⟨by repeat (first | (with_reducible first | exact HB.out | apply below_alloc | apply pw_below_drewN | apply below_drew1) | exact HB.out)⟩⟩
              · rw [if_neg c13] at H
                have c13b0 : decide (a2 < 0) = false := decide_eq_false c13
                clear c13
                by_cases c14 : a2 ≥ a0
                · rw [if_pos c14] at H
                  have c14b0 : decide (a0 ≤ a2) = true := decide_eq_true c14
                  clear c14
                  have H' := Aside0.mk H
                  clear H
                  go_wp2
                  repeat (go_quiet (fail); try go_wp2)
                  go_meet
                  case rel => exact ⟨_, (true), (by first | rfl | (simp; done) | (simp [*]; done)), H', ⟨by first | omega | exact Nat.le_refl _⟩, ⟨by repeat (first | (with_reducible first | exact HB.out | apply below_alloc | apply pw_below_drewN | apply below_drew1) | exact HB.out)⟩⟩
                · rw [if_neg c14] at H
                  have c14b0 : decide (a0 ≤ a2) = false := decide_eq_false c14
                  clear c14
                  by_cases c15 : a3 < 0
                  · rw [if_pos c15] at H
                    have c15b0 : decide (a3 < 0) = true := decide_eq_true c15
                    clear c15
                    have H' := Aside0.mk H
                    clear H
                    go_wp2
                    repeat (go_quiet (fail); try go_wp2)
                    go_meet
                    case rel => exact ⟨_, (true), (by first | rfl | (simp; done) | (simp [*]; done)), H', ⟨by first | omega | exact Nat.le_refl _⟩, ⟨by repeat (first | (with_reducible first | exact HB.out | apply below_alloc | apply pw_below_drewN | apply below_drew1) | exact HB.out)⟩⟩
                  · rw [if_neg c15] at H
                    have c15b0 : decide (a3 < 0) = false := decide_eq_false c15
                    clear c15
                    have H' := Aside0.mk H
                    clear H
                    go_wp2
                    repeat (go_quiet (fail); try go_wp2)
                    go_meet
                    case rel => exact ⟨_, (decide (a3 ≥ a0)), (by first | rfl | (simp; done) | (simp [*]; done)), H', ⟨by first | omega | exact Nat.le_refl _⟩, ⟨by repeat (first | (with_reducible first | exact HB.out | apply below_alloc | apply pw_below_drewN | apply below_drew1) | exact HB.out)⟩⟩
    case rest =>
      clear HC7
      try clear c1
      try clear p2
      try clear c4
      try clear c6
      try clear c9
      try clear c9b0
      try clear c10
      try clear c10b0
      try clear c11
      try clear c11b0
      try clear c12
      try clear c12b0
      try clear c13
      try clear c13b0
      try clear c14
      try clear c14b0
      try clear c15
      try clear c15b0
      obtain ⟨kq, x48_6, rfl, HA, HJ6, HB⟩ := hcut
      cases kq with
      | zero => exact absurd HA.out (by simp [salchowlaw36_RotationOnce.j0])
      | succ kj6 =>
        have H := HA.out
        clear HA
        simp only [salchowlaw36_RotationOnce.j0] at H
        by_cases c16 : x48_6 = true
        · subst c16
          have H1 : (some true) = some r := by rw [if_pos rfl] at H; exact H
          clear H
          have H := H1
          clear H1
          obtain rfl := Option.some.inj H
          go_wp2
          repeat (go_quiet (fail); try go_wp2)
          go_ret
          exact ⟨by first | rfl | (simp [errW_none, errW_some] <;> rfl) | (simp [*, errW_none, errW_some] <;> rfl), by repeat (first | (with_reducible first | exact HB.out | apply below_alloc | apply pw_below_drewN | apply below_drew1) | exact HB.out)⟩
        · replace c16 := Bool.eq_false_iff.mpr c16
          subst c16
          have H1 : (salchowlaw36_RotationOnce.l0 kj6 a0 a1 a2 a3 0) = some r := by rw [if_neg (show ¬ (false = true) by decide)] at H; exact H
          clear H
          have H := H1
          clear H1
          have H' := Aside0.mk H
          clear H
          go_wp2
          repeat (go_quiet (fail); try go_wp2)
          go_loopg [9] kj6 (fun kq v9 w' => ∃ (x9_2 : Int), v9 = .int .i64 x9_2 ∧ Aside0 (salchowlaw36_RotationOnce.l0 kq a0 a1 a2 a3 x9_2 = some r) ∧ Aside0 (kq ≤ kj6) ∧ Aside0 (Below w.heap.size w w'))
          case atStart => exact ⟨(0), (by first | rfl | (simp; done) | (simp [*]; done)), H', ⟨Nat.le_refl _⟩, ⟨by repeat (first | (with_reducible first | exact HB.out | apply below_alloc | apply pw_below_drewN | apply below_drew1) | exact HB.out)⟩⟩
          case round =>
            clear H'
            try clear c1
            try clear p2
            try clear c4
            try clear c6
            try clear c9
            try clear c9b0
            try clear c10
            try clear c10b0
            try clear c11
            try clear c11b0
            try clear c12
            try clear c12b0
            try clear c13
            try clear c13b0
            try clear c14
            try clear c14b0
            try clear c15
            try clear c15b0
            try clear c16
            try clear p2
            obtain ⟨x9_2, rfl, HA, HK2, HB⟩ := hrel
            cases gk with
            | zero => exact absurd HA.out (by simp [salchowlaw36_RotationOnce.l0])
            | succ k2 =>
              have H := HA.out
              clear HA
              simp only [salchowlaw36_RotationOnce.l0] at H
              by_cases c17 : x9_2 < 2
              · rw [if_pos c17] at H
                have c17b0 : decide (x9_2 < 2) = true := decide_eq_true c17
                clear c17
                replace H := Option.bind_eq_some_iff.mp H
                obtain ⟨⟨t290, t291⟩, A180, H⟩ := H
                replace H : (if x9_2 = 1 then ((rotation_Balanced.f k2 a0).bind fun bt294 => (salchowlaw36_RotationOnce.j2 k2 a0 a1 a2 a3 x9_2 bt294.1 bt294.2)) else (salchowlaw36_RotationOnce.j2 k2 a0 a1 a2 a3 x9_2 t290 t291)) = some r := H
                have A18 := Aside0.mk A180
                clear A180
                have HC19 := Aside0.mk H
                clear H
                go_upto_if 59 with (first | (go_at_call 14; (with_reducible refine (rotation_Cyclic.calls k2 a0 t290 t291 _ A18.out).mono ?_); rintro e w20 ⟨v292, rfl, ho0, hb⟩; have n0_ := Aside0.mk (Kd.S_lower ho0 (below_size (by repeat (first | (with_reducible first | exact HB.out | apply below_alloc | apply pw_below_drewN | apply below_drew1) | exact HB.out)))); have n1_ := Aside0.mk (below_step (by repeat (first | (with_reducible first | exact HB.out | apply below_alloc | apply pw_below_drewN | apply below_drew1) | exact HB.out)) hb); clear HB; have HO293 := n0_; have HB := n1_; clear n0_ n1_; (try clear hb); (try clear hb2); (try clear hk); (try clear hi); (try clear ho0)))
                repeat (go_quiet (first | (go_at_call 14; (with_reducible refine (rotation_Cyclic.calls k2 a0 t290 t291 _ A18.out).mono ?_); rintro e w20 ⟨v292, rfl, ho0, hb⟩; have n0_ := Aside0.mk (Kd.S_lower ho0 (below_size (by repeat (first | (with_reducible first | exact HB.out | apply below_alloc | apply pw_below_drewN | apply below_drew1) | exact HB.out)))); have n1_ := Aside0.mk (below_step (by repeat (first | (with_reducible first | exact HB.out | apply below_alloc | apply pw_below_drewN | apply below_drew1) | exact HB.out)) hb); clear HB; have HO293 := n0_; have HB := n1_; clear n0_ n1_; (try clear hb); (try clear hb2); (try clear hk); (try clear hi); (try clear ho0))); go_upto_if 59 with (first | (go_at_call 14; (with_reducible refine (rotation_Cyclic.calls k2 a0 t290 t291 _ A18.out).mono ?_); rintro e w20 ⟨v292, rfl, ho0, hb⟩; have n0_ := Aside0.mk (Kd.S_lower ho0 (below_size (by repeat (first | (with_reducible first | exact HB.out | apply below_alloc | apply pw_below_drewN | apply below_drew1) | exact HB.out)))); have n1_ := Aside0.mk (below_step (by repeat (first | (with_reducible first | exact HB.out | apply below_alloc | apply pw_below_drewN | apply below_drew1) | exact HB.out)) hb); clear HB; have HO293 := n0_; have HB := n1_; clear n0_ n1_; (try clear hb); (try clear hb2); (try clear hk); (try clear hi); (try clear ho0))))
                (try simp only [Act.put, List.setIfInBounds_toArray, List.set_cons_zero, List.set_cons_succ])
                go_cut [10, 11] (fun v10 v11 wc => ∃ (kq : Nat) (x10_18 : List (List Int)) (x11_18 : Int), v11 = .int .i64 x11_18 ∧ Aside0 (salchowlaw36_RotationOnce.j2 kq a0 a1 a2 a3 x9_2 x10_18 x11_18 = some r) ∧ Aside0 (kq ≤ k2) ∧ Aside0 (Kd.S (Kd.slice 3 (Kd.int .i64)) 31 wc w.heap.size (fun _ => True) v10 x10_18) ∧ Aside0 (Below w.heap.size w wc))
                case first =>
                  have H := HC19.out
                  clear HC19
                  by_cases c21 : x9_2 = 1
                  · rw [if_pos c21] at H
                    have c21b0 : (x9_2 == 1) = true := beq_iff_eq.mpr c21
                    have c21b1 : (x9_2 != 1) = false := bne_eq_false_iff_eq.mpr c21
                    clear c21
                    (first | rw [c21b0] | (simp only [i64_w, i32_w]; rw [c21b0]) | skip)
                    replace H := Option.bind_eq_some_iff.mp H
                    obtain ⟨⟨t294, t295⟩, A220, H⟩ := H
                    replace H : (salchowlaw36_RotationOnce.j2 k2 a0 a1 a2 a3 x9_2 t294 t295) = some r := H
                    have A22 := Aside0.mk A220
                    clear A220
                    have H' := Aside0.mk H
                    clear H
                    go_wp2_with (first | (go_at_call 15; (with_reducible refine (rotation_Balanced.calls k2 a0 t294 t295 _ A22.out).mono ?_); rintro e w23 ⟨v296, rfl, ho0, hb⟩; have n0_ := Aside0.mk (Kd.S_elder' (by (with_reducible repeat (first | apply Kd.S_alloc | apply Kd.S_drewN | apply Kd.S_drew)); exact HO293.out) (Kd.S_base ho0) hb); have n1_ := Aside0.mk (Kd.S_lower (Kd.S_new' ho0 (Kd.S_lt (by (with_reducible repeat (first | apply Kd.S_alloc | apply Kd.S_drewN | apply Kd.S_drew)); exact HO293.out))) (below_size (by repeat (first | (with_reducible first | exact HB.out | apply below_alloc | apply pw_below_drewN | apply below_drew1) | exact HB.out)))); have n2_ := Aside0.mk (below_step (by repeat (first | (with_reducible first | exact HB.out | apply below_alloc | apply pw_below_drewN | apply below_drew1) | exact HB.out)) hb); clear HO293; clear HB; have HO293 := n0_; have HO297 := n1_; have HB := n2_; clear n0_ n1_ n2_; (try clear hb); (try clear hb2); (try clear hk); (try clear hi); (try clear ho0)))
                    repeat (go_quiet (first | (go_at_call 15; (with_reducible refine (rotation_Balanced.calls k2 a0 t294 t295 _ A22.out).mono ?_); rintro e w23 ⟨v296, rfl, ho0, hb⟩; have n0_ := Aside0.mk (Kd.S_elder' (by (with_reducible repeat (first | apply Kd.S_alloc | apply Kd.S_drewN | apply Kd.S_drew)); exact HO293.out) (Kd.S_base ho0) hb); have n1_ := Aside0.mk (Kd.S_lower (Kd.S_new' ho0 (Kd.S_lt (by (with_reducible repeat (first | apply Kd.S_alloc | apply Kd.S_drewN | apply Kd.S_drew)); exact HO293.out))) (below_size (by repeat (first | (with_reducible first | exact HB.out | apply below_alloc | apply pw_below_drewN | apply below_drew1) | exact HB.out)))); have n2_ := Aside0.mk (below_step (by repeat (first | (with_reducible first | exact HB.out | apply below_alloc | apply pw_below_drewN | apply below_drew1) | exact HB.out)) hb); clear HO293; clear HB; have HO293 := n0_; have HO297 := n1_; have HB := n2_; clear n0_ n1_ n2_; (try clear hb); (try clear hb2); (try clear hk); (try clear hi); (try clear ho0))); try go_wp2_with (first | (go_at_call 15; (with_reducible refine (rotation_Balanced.calls k2 a0 t294 t295 _ A22.out).mono ?_); rintro e w23 ⟨v296, rfl, ho0, hb⟩; have n0_ := Aside0.mk (Kd.S_elder' (by (with_reducible repeat (first | apply Kd.S_alloc | apply Kd.S_drewN | apply Kd.S_drew)); exact HO293.out) (Kd.S_base ho0) hb); have n1_ := Aside0.mk (Kd.S_lower (Kd.S_new' ho0 (Kd.S_lt (by (with_reducible repeat (first | apply Kd.S_alloc | apply Kd.S_drewN | apply Kd.S_drew)); exact HO293.out))) (below_size (by repeat (first | (with_reducible first | exact HB.out | apply below_alloc | apply pw_below_drewN | apply below_drew1) | exact HB.out)))); have n2_ := Aside0.mk (below_step (by repeat (first | (with_reducible first | exact HB.out | apply below_alloc | apply pw_below_drewN | apply below_drew1) | exact HB.out)) hb); clear HO293; clear HB; have HO293 := n0_; have HO297 := n1_; have HB := n2_; clear n0_ n1_ n2_; (try clear hb); (try clear hb2); (try clear hk); (try clear hi); (try clear ho0))))
                    go_meet
                    case rel => exact ⟨_, (t294), (t295), (by first | rfl | (simp; done) | (simp [*]; done)), H', ⟨by have := HJ6.out; have := HK2.out; first | omega | exact Nat.le_refl _⟩, ⟨by (with_reducible repeat (first | apply Kd.S_alloc | apply Kd.S_drewN | apply Kd.S_drew)); exact Kd.S_mono HO297.out (fun _ hk => trivial)⟩, ⟨by repeat (first | (with_reducible first | exact HB.out | apply below_alloc | apply pw_below_drewN | apply below_drew1) | exact HB.out)⟩⟩
                  · rw [if_neg c21] at H
                    have c21b0 : (x9_2 == 1) = false := beq_eq_false_iff_ne.mpr c21
                    have c21b1 : (x9_2 != 1) = true := bne_iff_ne.mpr c21
                    (first | rw [c21b0] | (simp only [i64_w, i32_w]; rw [c21b0]) | skip)
                    have H' := Aside0.mk H
                    clear H
                    go_wp2
                    repeat (go_quiet (fail); try go_wp2)
                    go_meet
                    case rel => exact ⟨_, (t290), (t291), (by first | rfl | (simp; done) | (simp [*]; done)), H', ⟨by have := HJ6.out; have := HK2.out; first | omega | exact Nat.le_refl _⟩, ⟨by (with_reducible repeat (first | apply Kd.S_alloc | apply Kd.S_drewN | apply Kd.S_drew)); exact HO293.out⟩, ⟨by repeat (first | (with_reducible first | exact HB.out | apply below_alloc | apply pw_below_drewN | apply below_drew1) | exact HB.out)⟩⟩
                case rest =>
                  clear HC19
                  try clear c1
                  try clear c2
                  try clear p2
                  try clear c4
                  try clear c6
                  try clear c9
                  try clear c9b0
                  try clear c10
                  try clear c10b0
                  try clear c11
                  try clear c11b0
                  try clear c12
                  try clear c12b0
                  try clear c13
                  try clear c13b0
                  try clear c14
                  try clear c14b0
                  try clear c15
                  try clear c15b0
                  try clear c16
                  try clear c17
                  try clear c17b0
                  try clear c21
                  try clear c21b0
                  try clear c21b1
                  try clear p2
                  obtain ⟨kq, x10_18, x11_18, rfl, HA, HJ18, HO_10, HB⟩ := hcut
                  cases kq with
                  | zero => exact absurd HA.out (by simp [salchowlaw36_RotationOnce.j2])
                  | succ kj18 =>
                    have H := HA.out
                    clear HA
                    simp only [salchowlaw36_RotationOnce.j2] at H
                    by_cases c24 : x11_18 = 0
                    · rw [if_pos c24] at H
                      have c24b0 : (x11_18 == 0) = true := beq_iff_eq.mpr c24
                      have c24b1 : (x11_18 != 0) = false := bne_eq_false_iff_eq.mpr c24
                      clear c24
                      replace H := Option.bind_eq_some_iff.mp H
                      obtain ⟨t298, A250, H⟩ := H
                      replace H : (if t298 = true then (salchowlaw36_RotationOnce.l1 kj18 a0 a1 a2 a3 x9_2 x10_18 0 0) else (some false)) = some r := H
                      have A25 := Aside0.mk A250
                      clear A250
                      by_cases c26 : t298 = true
                      · subst c26
                        have H1 : (salchowlaw36_RotationOnce.l1 kj18 a0 a1 a2 a3 x9_2 x10_18 0 0) = some r := by rw [if_pos rfl] at H; exact H
                        clear H
                        have H := H1
                        clear H1
                        have H' := Aside0.mk H
                        clear H
                        obtain ⟨Ao27, co27, eo27⟩ := Kd.S_slice HO_10.out
                        subst eo27
                        go_wp2_with (first | (go_at_call 19; (with_reducible refine (rotation_Latin.calls kj18 _ _ x10_18 true _ ?side1 ?side2 A25.out).mono ?_); (case side1 => repeat (first | exact (Kd.S_reads' HO_10.out).2.2 | (with_reducible refine Kd.C_alloc ?_ _) | (with_reducible refine Kd.C_drewN ?_ _) | (with_reducible refine Kd.C_drew ?_))); (case side2 => exact (Kd.S_reads' HO_10.out).2.1); rintro e w28 ⟨rfl, hb⟩; have n0_ := Aside0.mk (Kd.S_below (by (with_reducible repeat (first | apply Kd.S_alloc | apply Kd.S_drewN | apply Kd.S_drew)); exact HO_10.out) hb); have n1_ := Aside0.mk (below_step (by repeat (first | (with_reducible first | exact HB.out | apply below_alloc | apply pw_below_drewN | apply below_drew1) | exact HB.out)) hb); clear HO_10; clear HB; have HO_10 := n0_; have HB := n1_; clear n0_ n1_; (try clear hb); (try clear hb2); (try clear hk); (try clear hi)))
                        repeat (go_quiet (first | (go_at_call 19; (with_reducible refine (rotation_Latin.calls kj18 _ _ x10_18 true _ ?side1 ?side2 A25.out).mono ?_); (case side1 => repeat (first | exact (Kd.S_reads' HO_10.out).2.2 | (with_reducible refine Kd.C_alloc ?_ _) | (with_reducible refine Kd.C_drewN ?_ _) | (with_reducible refine Kd.C_drew ?_))); (case side2 => exact (Kd.S_reads' HO_10.out).2.1); rintro e w28 ⟨rfl, hb⟩; have n0_ := Aside0.mk (Kd.S_below (by (with_reducible repeat (first | apply Kd.S_alloc | apply Kd.S_drewN | apply Kd.S_drew)); exact HO_10.out) hb); have n1_ := Aside0.mk (below_step (by repeat (first | (with_reducible first | exact HB.out | apply below_alloc | apply pw_below_drewN | apply below_drew1) | exact HB.out)) hb); clear HO_10; clear HB; have HO_10 := n0_; have HB := n1_; clear n0_ n1_; (try clear hb); (try clear hb2); (try clear hk); (try clear hi))); try go_wp2_with (first | (go_at_call 19; (with_reducible refine (rotation_Latin.calls kj18 _ _ x10_18 true _ ?side1 ?side2 A25.out).mono ?_); (case side1 => repeat (first | exact (Kd.S_reads' HO_10.out).2.2 | (with_reducible refine Kd.C_alloc ?_ _) | (with_reducible refine Kd.C_drewN ?_ _) | (with_reducible refine Kd.C_drew ?_))); (case side2 => exact (Kd.S_reads' HO_10.out).2.1); rintro e w28 ⟨rfl, hb⟩; have n0_ := Aside0.mk (Kd.S_below (by (with_reducible repeat (first | apply Kd.S_alloc | apply Kd.S_drewN | apply Kd.S_drew)); exact HO_10.out) hb); have n1_ := Aside0.mk (below_step (by repeat (first | (with_reducible first | exact HB.out | apply below_alloc | apply pw_below_drewN | apply below_drew1) | exact HB.out)) hb); clear HO_10; clear HB; have HO_10 := n0_; have HB := n1_; clear n0_ n1_; (try clear hb); (try clear hb2); (try clear hk); (try clear hi))))
                        go_loopg [12, 13] kj18 (fun kq v12 v13 w' => ∃ (x12_4 : Int) (x13_4 : Int), v12 = .int .i64 x12_4 ∧ v13 = .int .i64 x13_4 ∧ Aside0 (salchowlaw36_RotationOnce.l1 kq a0 a1 a2 a3 x9_2 x10_18 x12_4 x13_4 = some r) ∧ Aside0 (kq ≤ kj18) ∧ Aside0 (Kd.S (Kd.slice 3 (Kd.int .i64)) 31 w' w.heap.size (fun _ => True) (.slice Ao27 x10_18.length co27) x10_18) ∧ Aside0 (Below w.heap.size w w'))
                        case atStart => exact ⟨(0), (0), (by first | rfl | (simp; done) | (simp [*]; done)), (by first | rfl | (simp; done) | (simp [*]; done)), H', ⟨Nat.le_refl _⟩, ⟨by (with_reducible repeat (first | apply Kd.S_alloc | apply Kd.S_drewN | apply Kd.S_drew)); exact HO_10.out⟩, ⟨by repeat (first | (with_reducible first | exact HB.out | apply below_alloc | apply pw_below_drewN | apply below_drew1) | exact HB.out)⟩⟩
                        case round =>
                          clear H'
                          try clear c1
                          try clear c2
                          try clear p2
                          try clear c4
                          try clear c6
                          try clear c9
                          try clear c9b0
                          try clear c10
                          try clear c10b0
                          try clear c11
                          try clear c11b0
                          try clear c12
                          try clear c12b0
                          try clear c13
                          try clear c13b0
                          try clear c14
                          try clear c14b0
                          try clear c15
                          try clear c15b0
                          try clear c16
                          try clear c17
                          try clear c17b0
                          try clear c21
                          try clear c21b0
                          try clear c21b1
                          try clear c24
                          try clear c24b0
                          try clear c24b1
                          try clear c26
                          try clear p2
                          obtain ⟨x12_4, x13_4, rfl, rfl, HA, HK4, HO_10, HB⟩ := hrel
                          cases gk with
                          | zero => exact absurd HA.out (by simp [salchowlaw36_RotationOnce.l1])
                          | succ k4 =>
                            have H := HA.out
                            clear HA
                            simp only [salchowlaw36_RotationOnce.l1] at H
                            by_cases c29 : x13_4 < a0
                            · rw [if_pos c29] at H
                              have c29b0 : decide (x13_4 < a0) = true := decide_eq_true c29
                              clear c29
                              by_cases c30 : 0 ≤ x13_4
                              · rw [if_pos c30] at H
                                have c30b0 : decide (0 ≤ x13_4) = true := decide_eq_true c30
                                clear c30
                                by_cases c31 : x13_4 < (x10_18.length : Int)
                                · rw [if_pos c31] at H
                                  have c31b0 : decide (x13_4 < (x10_18.length : Int)) = true := decide_eq_true c31
                                  clear c31
                                  by_cases c32 : 0 ≤ a1
                                  · rw [if_pos c32] at H
                                    have c32b0 : decide (0 ≤ a1) = true := decide_eq_true c32
                                    clear c32
                                    by_cases c33 : a1 < ((rd_L1 x10_18 x13_4).length : Int)
                                    · rw [if_pos c33] at H
                                      have c33b0 : decide (a1 < ((rd_L1 x10_18 x13_4).length : Int)) = true := decide_eq_true c33
                                      clear c33
                                      by_cases c34 : (rd (rd_L1 x10_18 x13_4) a1) = a3
                                      · rw [if_pos c34] at H
                                        have c34b0 : ((rd (rd_L1 x10_18 x13_4) a1) == a3) = true := beq_iff_eq.mpr c34
                                        have c34b1 : ((rd (rd_L1 x10_18 x13_4) a1) != a3) = false := bne_eq_false_iff_eq.mpr c34
                                        clear c34
                                        by_cases c35 : a1 = a2
                                        · rw [if_pos c35] at H
                                          have c35b0 : (a1 == a2) = true := beq_iff_eq.mpr c35
                                          have c35b1 : (a1 != a2) = false := bne_eq_false_iff_eq.mpr c35
                                          clear c35
                                          have H' := Aside0.mk H
                                          clear H
                                          have p299 : 0 ≤ (x13_4 : Int) := of_decide_eq_true (by first | (with_reducible assumption) | assumption)
                                          have q299 : x13_4 < (x10_18.length : Int) := of_decide_eq_true (by first | (with_reducible assumption) | assumption)
                                          obtain ⟨ad299, A299_0, c299_0, e299, hx299_0, hl299_0, hi299_0⟩ := at_L1 (Kd.S_reads' HO_10.out).2.2 x13_4 p299 q299
                                          cases e299
                                          obtain ⟨ce299, hce299, hMe299, hcc299⟩ := Kd.S_get HO_10.out [] x13_4 p299 (by first | exact q299 | exact of_decide_eq_true (by first | (with_reducible assumption) | assumption) | (have e_ := (Kd.S_reads' HO_10.out).1; omega))
                                          obtain ⟨ve299_0, rfl, ge299_0⟩ := hMe299
                                          have hv299_0 := hcc299 0 _ rfl
                                          rw [Nat.add_zero, show ((Kd.slice 3 (Kd.int .i64))).sz = 1 from rfl, Nat.mul_one] at hv299_0
                                          replace hv299_0 := Option.some.inj (hv299_0.symm.trans hx299_0)
                                          rw [hv299_0] at ge299_0
                                          have HL299_0 := Aside0.mk (show Kd.R (Kd.int .i64) 3 _ _ _ _ (rd_L1 x10_18 x13_4) from ge299_0)
                                          clear hv299_0 ge299_0
                                          clear hcc299 hce299
                                          have HR299_0 := Aside0.mk hi299_0
                                          have HC299_0 := Aside0.mk hl299_0
                                          clear hi299_0 hl299_0
                                          replace p299 := eq_true p299
                                          replace q299 := eq_true q299
                                          have p300 : 0 ≤ (a1 : Int) := of_decide_eq_true (by first | (with_reducible assumption) | assumption)
                                          have q300 : a1 < ((rd_L1 x10_18 x13_4).length : Int) := of_decide_eq_true (by first | (with_reducible assumption) | assumption)
                                          obtain ⟨ad300, e300, hx300_0⟩ := Kd.at_int (by repeat (first | (with_reducible exact HR299_0.out) | (with_reducible refine Kd.C_alloc ?_ _) | (with_reducible refine Kd.C_drewN ?_ _) | (with_reducible refine Kd.C_drew ?_) | exact HR299_0.out)) a1 p300 q300
                                          cases e300
                                          replace p300 := eq_true p300
                                          replace q300 := eq_true q300
                                          go_wp2
                                          repeat (go_quiet (fail); try go_wp2)
                                          go_roundg k4
                                          case measure => have := HJ6.out; have := HK2.out; have := HJ18.out; have := HK4.out; omega
                                          case rel => exact ⟨(wrap64 (x12_4 + 1)), (wrap64 (x13_4 + 1)), (by first | rfl | (simp; done) | (simp [*]; done)), (by first | rfl | (simp; done) | (simp [*]; done)), H', ⟨by have := HJ6.out; have := HK2.out; have := HJ18.out; have := HK4.out; omega⟩, ⟨by (with_reducible repeat (first | apply Kd.S_alloc | apply Kd.S_drewN | apply Kd.S_drew)); exact HO_10.out⟩, ⟨by repeat (first | (with_reducible first | exact HB.out | apply below_alloc | apply pw_below_drewN | apply below_drew1) | exact HB.out)⟩⟩
                                        · rw [if_neg c35] at H
                                          have c35b0 : (a1 == a2) = false := beq_eq_false_iff_ne.mpr c35
                                          have c35b1 : (a1 != a2) = true := bne_iff_ne.mpr c35
                                          by_cases c36 : 0 ≤ a2
                                          · rw [if_pos c36] at H
                                            have c36b0 : decide (0 ≤ a2) = true := decide_eq_true c36
                                            clear c36
                                            by_cases c37 : a2 < ((rd_L1 x10_18 x13_4).length : Int)
                                            · rw [if_pos c37] at H
                                              have c37b0 : decide (a2 < ((rd_L1 x10_18 x13_4).length : Int)) = true := decide_eq_true c37
                                              clear c37
                                              by_cases c38 : (rd (rd_L1 x10_18 x13_4) a1) = (rd (rd_L1 x10_18 x13_4) a2)
                                              · rw [if_pos c38] at H
                                                have c38b0 : ((rd (rd_L1 x10_18 x13_4) a1) == (rd (rd_L1 x10_18 x13_4) a2)) = true := beq_iff_eq.mpr c38
                                                have c38b1 : ((rd (rd_L1 x10_18 x13_4) a1) != (rd (rd_L1 x10_18 x13_4) a2)) = false := bne_eq_false_iff_eq.mpr c38
                                                clear c38
                                                obtain rfl := Option.some.inj H
                                                have p299 : 0 ≤ (x13_4 : Int) := of_decide_eq_true (by first | (with_reducible assumption) | assumption)
                                                have q299 : x13_4 < (x10_18.length : Int) := of_decide_eq_true (by first | (with_reducible assumption) | assumption)
                                                obtain ⟨ad299, A299_0, c299_0, e299, hx299_0, hl299_0, hi299_0⟩ := at_L1 (Kd.S_reads' HO_10.out).2.2 x13_4 p299 q299
                                                cases e299
                                                obtain ⟨ce299, hce299, hMe299, hcc299⟩ := Kd.S_get HO_10.out [] x13_4 p299 (by first | exact q299 | exact of_decide_eq_true (by first | (with_reducible assumption) | assumption) | (have e_ := (Kd.S_reads' HO_10.out).1; omega))
                                                obtain ⟨ve299_0, rfl, ge299_0⟩ := hMe299
                                                have hv299_0 := hcc299 0 _ rfl
                                                rw [Nat.add_zero, show ((Kd.slice 3 (Kd.int .i64))).sz = 1 from rfl, Nat.mul_one] at hv299_0
                                                replace hv299_0 := Option.some.inj (hv299_0.symm.trans hx299_0)
                                                rw [hv299_0] at ge299_0
                                                have HL299_0 := Aside0.mk (show Kd.R (Kd.int .i64) 3 _ _ _ _ (rd_L1 x10_18 x13_4) from ge299_0)
                                                clear hv299_0 ge299_0
                                                clear hcc299 hce299
                                                have HR299_0 := Aside0.mk hi299_0
                                                have HC299_0 := Aside0.mk hl299_0
                                                clear hi299_0 hl299_0
                                                replace p299 := eq_true p299
                                                replace q299 := eq_true q299
                                                have p300 : 0 ≤ (a1 : Int) := of_decide_eq_true (by first | (with_reducible assumption) | assumption)
                                                have q300 : a1 < ((rd_L1 x10_18 x13_4).length : Int) := of_decide_eq_true (by first | (with_reducible assumption) | assumption)
                                                obtain ⟨ad300, e300, hx300_0⟩ := Kd.at_int (by repeat (first | (with_reducible exact HR299_0.out) | (with_reducible refine Kd.C_alloc ?_ _) | (with_reducible refine Kd.C_drewN ?_ _) | (with_reducible refine Kd.C_drew ?_) | exact HR299_0.out)) a1 p300 q300
                                                cases e300
                                                replace p300 := eq_true p300
                                                replace q300 := eq_true q300
                                                have p301 : 0 ≤ (x13_4 : Int) := of_decide_eq_true (by first | (with_reducible assumption) | assumption)
                                                have q301 : x13_4 < (x10_18.length : Int) := of_decide_eq_true (by first | (with_reducible assumption) | assumption)
                                                obtain ⟨ad301, A301_0, c301_0, e301, hx301_0, hl301_0, hi301_0⟩ := at_L1 (Kd.S_reads' HO_10.out).2.2 x13_4 p301 q301
                                                obtain rfl : ad299 = ad301 := (by injection e301)
                                                obtain ⟨ce301, hce301, hMe301, hcc301⟩ := Kd.S_get HO_10.out [] x13_4 p301 (by first | exact q301 | exact of_decide_eq_true (by first | (with_reducible assumption) | assumption) | (have e_ := (Kd.S_reads' HO_10.out).1; omega))
                                                obtain ⟨ve301_0, rfl, ge301_0⟩ := hMe301
                                                have hv301_0 := hcc301 0 _ rfl
                                                rw [Nat.add_zero, show ((Kd.slice 3 (Kd.int .i64))).sz = 1 from rfl, Nat.mul_one] at hv301_0
                                                replace hv301_0 := Option.some.inj (hv301_0.symm.trans hx301_0)
                                                rw [hv301_0] at ge301_0
                                                have HL301_0 := Aside0.mk (show Kd.R (Kd.int .i64) 3 _ _ _ _ (rd_L1 x10_18 x13_4) from ge301_0)
                                                clear hv301_0 ge301_0
                                                clear hcc301 hce301
                                                have HR301_0 := Aside0.mk hi301_0
                                                have HC301_0 := Aside0.mk hl301_0
                                                clear hi301_0 hl301_0
                                                replace p301 := eq_true p301
                                                replace q301 := eq_true q301
                                                have ea_ := Option.some.inj (hx299_0.symm.trans hx301_0)
                                                injection ea_ with ea_ en_ ec_
                                                subst ea_
                                                subst ec_
                                                clear en_
                                                have p302 : 0 ≤ (a1 : Int) := of_decide_eq_true (by first | (with_reducible assumption) | assumption)
                                                have q302 : a1 < ((rd_L1 x10_18 x13_4).length : Int) := of_decide_eq_true (by first | (with_reducible assumption) | assumption)
                                                obtain ⟨ad302, e302, hx302_0⟩ := Kd.at_int (by repeat (first | (with_reducible exact HR301_0.out) | (with_reducible refine Kd.C_alloc ?_ _) | (with_reducible refine Kd.C_drewN ?_ _) | (with_reducible refine Kd.C_drew ?_) | exact HR301_0.out)) a1 p302 q302
                                                cases e302
                                                replace p302 := eq_true p302
                                                replace q302 := eq_true q302
                                                have p303 : 0 ≤ (x13_4 : Int) := of_decide_eq_true (by first | (with_reducible assumption) | assumption)
                                                have q303 : x13_4 < (x10_18.length : Int) := of_decide_eq_true (by first | (with_reducible assumption) | assumption)
                                                obtain ⟨ad303, A303_0, c303_0, e303, hx303_0, hl303_0, hi303_0⟩ := at_L1 (Kd.S_reads' HO_10.out).2.2 x13_4 p303 q303
                                                obtain rfl : ad299 = ad303 := (by injection e303)
                                                obtain ⟨ce303, hce303, hMe303, hcc303⟩ := Kd.S_get HO_10.out [] x13_4 p303 (by first | exact q303 | exact of_decide_eq_true (by first | (with_reducible assumption) | assumption) | (have e_ := (Kd.S_reads' HO_10.out).1; omega))
                                                obtain ⟨ve303_0, rfl, ge303_0⟩ := hMe303
                                                have hv303_0 := hcc303 0 _ rfl
                                                rw [Nat.add_zero, show ((Kd.slice 3 (Kd.int .i64))).sz = 1 from rfl, Nat.mul_one] at hv303_0
                                                replace hv303_0 := Option.some.inj (hv303_0.symm.trans hx303_0)
                                                rw [hv303_0] at ge303_0
                                                have HL303_0 := Aside0.mk (show Kd.R (Kd.int .i64) 3 _ _ _ _ (rd_L1 x10_18 x13_4) from ge303_0)
                                                clear hv303_0 ge303_0
                                                clear hcc303 hce303
                                                have HR303_0 := Aside0.mk hi303_0
                                                have HC303_0 := Aside0.mk hl303_0
                                                clear hi303_0 hl303_0
                                                replace p303 := eq_true p303
                                                replace q303 := eq_true q303
                                                have ea_ := Option.some.inj (hx299_0.symm.trans hx303_0)
                                                injection ea_ with ea_ en_ ec_
                                                subst ea_
                                                subst ec_
                                                clear en_
                                                have p304 : 0 ≤ (a2 : Int) := of_decide_eq_true (by first | (with_reducible assumption) | assumption)
                                                have q304 : a2 < ((rd_L1 x10_18 x13_4).length : Int) := of_decide_eq_true (by first | (with_reducible assumption) | assumption)
                                                obtain ⟨ad304, e304, hx304_0⟩ := Kd.at_int (by repeat (first | (with_reducible exact HR303_0.out) | (with_reducible refine Kd.C_alloc ?_ _) | (with_reducible refine Kd.C_drewN ?_ _) | (with_reducible refine Kd.C_drew ?_) | exact HR303_0.out)) a2 p304 q304
                                                cases e304
                                                replace p304 := eq_true p304
                                                replace q304 := eq_true q304
                                                go_wp2
                                                repeat (go_quiet (fail); try go_wp2)
                                                go_ret
                                                exact ⟨by first | rfl | (simp [errW_none, errW_some] <;> rfl) | (simp [*, errW_none, errW_some] <;> rfl), by repeat (first | (with_reducible first | exact HB.out | apply below_alloc | apply pw_below_drewN | apply below_drew1) | exact HB.out)⟩
                                              · rw [if_neg c38] at H
                                                have c38b0 : ((rd (rd_L1 x10_18 x13_4) a1) == (rd (rd_L1 x10_18 x13_4) a2)) = false := beq_eq_false_iff_ne.mpr c38
                                                have c38b1 : ((rd (rd_L1 x10_18 x13_4) a1) != (rd (rd_L1 x10_18 x13_4) a2)) = true := bne_iff_ne.mpr c38
                                                have H' := Aside0.mk H
                                                clear H
                                                have p299 : 0 ≤ (x13_4 : Int) := of_decide_eq_true (by first | (with_reducible assumption) | assumption)
                                                have q299 : x13_4 < (x10_18.length : Int) := of_decide_eq_true (by first | (with_reducible assumption) | assumption)
                                                obtain ⟨ad299, A299_0, c299_0, e299, hx299_0, hl299_0, hi299_0⟩ := at_L1 (Kd.S_reads' HO_10.out).2.2 x13_4 p299 q299
                                                cases e299
                                                obtain ⟨ce299, hce299, hMe299, hcc299⟩ := Kd.S_get HO_10.out [] x13_4 p299 (by first | exact q299 | exact of_decide_eq_true (by first | (with_reducible assumption) | assumption) | (have e_ := (Kd.S_reads' HO_10.out).1; omega))
                                                obtain ⟨ve299_0, rfl, ge299_0⟩ := hMe299
                                                have hv299_0 := hcc299 0 _ rfl
                                                rw [Nat.add_zero, show ((Kd.slice 3 (Kd.int .i64))).sz = 1 from rfl, Nat.mul_one] at hv299_0
                                                replace hv299_0 := Option.some.inj (hv299_0.symm.trans hx299_0)
                                                rw [hv299_0] at ge299_0
                                                have HL299_0 := Aside0.mk (show Kd.R (Kd.int .i64) 3 _ _ _ _ (rd_L1 x10_18 x13_4) from ge299_0)
                                                clear hv299_0 ge299_0
                                                clear hcc299 hce299
                                                have HR299_0 := Aside0.mk hi299_0
                                                have HC299_0 := Aside0.mk hl299_0
                                                clear hi299_0 hl299_0
                                                replace p299 := eq_true p299
                                                replace q299 := eq_true q299
                                                have p300 : 0 ≤ (a1 : Int) := of_decide_eq_true (by first | (with_reducible assumption) | assumption)
                                                have q300 : a1 < ((rd_L1 x10_18 x13_4).length : Int) := of_decide_eq_true (by first | (with_reducible assumption) | assumption)
                                                obtain ⟨ad300, e300, hx300_0⟩ := Kd.at_int (by repeat (first | (with_reducible exact HR299_0.out) | (with_reducible refine Kd.C_alloc ?_ _) | (with_reducible refine Kd.C_drewN ?_ _) | (with_reducible refine Kd.C_drew ?_) | exact HR299_0.out)) a1 p300 q300
                                                cases e300
                                                replace p300 := eq_true p300
                                                replace q300 := eq_true q300
                                                have p301 : 0 ≤ (x13_4 : Int) := of_decide_eq_true (by first | (with_reducible assumption) | assumption)
                                                have q301 : x13_4 < (x10_18.length : Int) := of_decide_eq_true (by first | (with_reducible assumption) | assumption)
                                                obtain ⟨ad301, A301_0, c301_0, e301, hx301_0, hl301_0, hi301_0⟩ := at_L1 (Kd.S_reads' HO_10.out).2.2 x13_4 p301 q301
                                                obtain rfl : ad299 = ad301 := (by injection e301)
                                                obtain ⟨ce301, hce301, hMe301, hcc301⟩ := Kd.S_get HO_10.out [] x13_4 p301 (by first | exact q301 | exact of_decide_eq_true (by first | (with_reducible assumption) | assumption) | (have e_ := (Kd.S_reads' HO_10.out).1; omega))
                                                obtain ⟨ve301_0, rfl, ge301_0⟩ := hMe301
                                                have hv301_0 := hcc301 0 _ rfl
                                                rw [Nat.add_zero, show ((Kd.slice 3 (Kd.int .i64))).sz = 1 from rfl, Nat.mul_one] at hv301_0
                                                replace hv301_0 := Option.some.inj (hv301_0.symm.trans hx301_0)
                                                rw [hv301_0] at ge301_0
                                                have HL301_0 := Aside0.mk (show Kd.R (Kd.int .i64) 3 _ _ _ _ (rd_L1 x10_18 x13_4) from ge301_0)
                                                clear hv301_0 ge301_0
                                                clear hcc301 hce301
                                                have HR301_0 := Aside0.mk hi301_0
                                                have HC301_0 := Aside0.mk hl301_0
                                                clear hi301_0 hl301_0
                                                replace p301 := eq_true p301
                                                replace q301 := eq_true q301
                                                have ea_ := Option.some.inj (hx299_0.symm.trans hx301_0)
                                                injection ea_ with ea_ en_ ec_
                                                subst ea_
                                                subst ec_
                                                clear en_
                                                have p302 : 0 ≤ (a1 : Int) := of_decide_eq_true (by first | (with_reducible assumption) | assumption)
                                                have q302 : a1 < ((rd_L1 x10_18 x13_4).length : Int) := of_decide_eq_true (by first | (with_reducible assumption) | assumption)
                                                obtain ⟨ad302, e302, hx302_0⟩ := Kd.at_int (by repeat (first | (with_reducible exact HR301_0.out) | (with_reducible refine Kd.C_alloc ?_ _) | (with_reducible refine Kd.C_drewN ?_ _) | (with_reducible refine Kd.C_drew ?_) | exact HR301_0.out)) a1 p302 q302
                                                cases e302
                                                replace p302 := eq_true p302
                                                replace q302 := eq_true q302
                                                have p303 : 0 ≤ (x13_4 : Int) := of_decide_eq_true (by first | (with_reducible assumption) | assumption)
                                                have q303 : x13_4 < (x10_18.length : Int) := of_decide_eq_true (by first | (with_reducible assumption) | assumption)
                                                obtain ⟨ad303, A303_0, c303_0, e303, hx303_0, hl303_0, hi303_0⟩ := at_L1 (Kd.S_reads' HO_10.out).2.2 x13_4 p303 q303
                                                obtain rfl : ad299 = ad303 := (by injection e303)
                                                obtain ⟨ce303, hce303, hMe303, hcc303⟩ := Kd.S_get HO_10.out [] x13_4 p303 (by first | exact q303 | exact of_decide_eq_true (by first | (with_reducible assumption) | assumption) | (have e_ := (Kd.S_reads' HO_10.out).1; omega))
                                                obtain ⟨ve303_0, rfl, ge303_0⟩ := hMe303
                                                have hv303_0 := hcc303 0 _ rfl
                                                rw [Nat.add_zero, show ((Kd.slice 3 (Kd.int .i64))).sz = 1 from rfl, Nat.mul_one] at hv303_0
                                                replace hv303_0 := Option.some.inj (hv303_0.symm.trans hx303_0)
                                                rw [hv303_0] at ge303_0
                                                have HL303_0 := Aside0.mk (show Kd.R (Kd.int .i64) 3 _ _ _ _ (rd_L1 x10_18 x13_4) from ge303_0)
                                                clear hv303_0 ge303_0
                                                clear hcc303 hce303
                                                have HR303_0 := Aside0.mk hi303_0
                                                have HC303_0 := Aside0.mk hl303_0
                                                clear hi303_0 hl303_0
                                                replace p303 := eq_true p303
                                                replace q303 := eq_true q303
                                                have ea_ := Option.some.inj (hx299_0.symm.trans hx303_0)
                                                injection ea_ with ea_ en_ ec_
                                                subst ea_
                                                subst ec_
                                                clear en_
                                                have p304 : 0 ≤ (a2 : Int) := of_decide_eq_true (by first | (with_reducible assumption) | assumption)
                                                have q304 : a2 < ((rd_L1 x10_18 x13_4).length : Int) := of_decide_eq_true (by first | (with_reducible assumption) | assumption)
                                                obtain ⟨ad304, e304, hx304_0⟩ := Kd.at_int (by repeat (first | (with_reducible exact HR303_0.out) | (with_reducible refine Kd.C_alloc ?_ _) | (with_reducible refine Kd.C_drewN ?_ _) | (with_reducible refine Kd.C_drew ?_) | exact HR303_0.out)) a2 p304 q304
                                                cases e304
                                                replace p304 := eq_true p304
                                                replace q304 := eq_true q304
                                                go_wp2
                                                repeat (go_quiet (fail); try go_wp2)
                                                go_roundg k4
                                                case measure => have := HJ6.out; have := HK2.out; have := HJ18.out; have := HK4.out; omega
                                                case rel => exact ⟨(wrap64 (x12_4 + 1)), (wrap64 (x13_4 + 1)), (by first | rfl | (simp; done) | (simp [*]; done)), (by first | rfl | (simp; done) | (simp [*]; done)), H', ⟨by have := HJ6.out; have := HK2.out; have := HJ18.out; have := HK4.out; omega⟩, ⟨by (with_reducible repeat (first | apply Kd.S_alloc | apply Kd.S_drewN | apply Kd.S_drew)); exact HO_10.out⟩, ⟨by repeat (first | (with_reducible first | exact HB.out | apply below_alloc | apply pw_below_drewN | apply below_drew1) | exact HB.out)⟩⟩
                                            · rw [if_neg c37] at H
                                              exact absurd H (by simp)
                                          · rw [if_neg c36] at H
                                            exact absurd H (by simp)
                                      · rw [if_neg c34] at H
                                        have c34b0 : ((rd (rd_L1 x10_18 x13_4) a1) == a3) = false := beq_eq_false_iff_ne.mpr c34
                                        have c34b1 : ((rd (rd_L1 x10_18 x13_4) a1) != a3) = true := bne_iff_ne.mpr c34
                                        by_cases c39 : a1 = a2
                                        · rw [if_pos c39] at H
                                          have c39b0 : (a1 == a2) = true := beq_iff_eq.mpr c39
                                          have c39b1 : (a1 != a2) = false := bne_eq_false_iff_eq.mpr c39
                                          clear c39
                                          have H' := Aside0.mk H
                                          clear H
                                          have p299 : 0 ≤ (x13_4 : Int) := of_decide_eq_true (by first | (with_reducible assumption) | assumption)
                                          have q299 : x13_4 < (x10_18.length : Int) := of_decide_eq_true (by first | (with_reducible assumption) | assumption)
                                          obtain ⟨ad299, A299_0, c299_0, e299, hx299_0, hl299_0, hi299_0⟩ := at_L1 (Kd.S_reads' HO_10.out).2.2 x13_4 p299 q299
                                          cases e299
                                          obtain ⟨ce299, hce299, hMe299, hcc299⟩ := Kd.S_get HO_10.out [] x13_4 p299 (by first | exact q299 | exact of_decide_eq_true (by first | (with_reducible assumption) | assumption) | (have e_ := (Kd.S_reads' HO_10.out).1; omega))
                                          obtain ⟨ve299_0, rfl, ge299_0⟩ := hMe299
                                          have hv299_0 := hcc299 0 _ rfl
                                          rw [Nat.add_zero, show ((Kd.slice 3 (Kd.int .i64))).sz = 1 from rfl, Nat.mul_one] at hv299_0
                                          replace hv299_0 := Option.some.inj (hv299_0.symm.trans hx299_0)
                                          rw [hv299_0] at ge299_0
                                          have HL299_0 := Aside0.mk (show Kd.R (Kd.int .i64) 3 _ _ _ _ (rd_L1 x10_18 x13_4) from ge299_0)
                                          clear hv299_0 ge299_0
                                          clear hcc299 hce299
                                          have HR299_0 := Aside0.mk hi299_0
                                          have HC299_0 := Aside0.mk hl299_0
                                          clear hi299_0 hl299_0
                                          replace p299 := eq_true p299
                                          replace q299 := eq_true q299
                                          have p300 : 0 ≤ (a1 : Int) := of_decide_eq_true (by first | (with_reducible assumption) | assumption)
                                          have q300 : a1 < ((rd_L1 x10_18 x13_4).length : Int) := of_decide_eq_true (by first | (with_reducible assumption) | assumption)
                                          obtain ⟨ad300, e300, hx300_0⟩ := Kd.at_int (by repeat (first | (with_reducible exact HR299_0.out) | (with_reducible refine Kd.C_alloc ?_ _) | (with_reducible refine Kd.C_drewN ?_ _) | (with_reducible refine Kd.C_drew ?_) | exact HR299_0.out)) a1 p300 q300
                                          cases e300
                                          replace p300 := eq_true p300
                                          replace q300 := eq_true q300
                                          go_wp2
                                          repeat (go_quiet (fail); try go_wp2)
                                          go_roundg k4
                                          case measure => have := HJ6.out; have := HK2.out; have := HJ18.out; have := HK4.out; omega
                                          case rel => exact ⟨(x12_4), (wrap64 (x13_4 + 1)), (by first | rfl | (simp; done) | (simp [*]; done)), (by first | rfl | (simp; done) | (simp [*]; done)), H', ⟨by have := HJ6.out; have := HK2.out; have := HJ18.out; have := HK4.out; omega⟩, ⟨by (with_reducible repeat (first | apply Kd.S_alloc | apply Kd.S_drewN | apply Kd.S_drew)); exact HO_10.out⟩, ⟨by repeat (first | (with_reducible first | exact HB.out | apply below_alloc | apply pw_below_drewN | apply below_drew1) | exact HB.out)⟩⟩
                                        · rw [if_neg c39] at H
                                          have c39b0 : (a1 == a2) = false := beq_eq_false_iff_ne.mpr c39
                                          have c39b1 : (a1 != a2) = true := bne_iff_ne.mpr c39
                                          by_cases c40 : 0 ≤ a2
                                          · rw [if_pos c40] at H
                                            have c40b0 : decide (0 ≤ a2) = true := decide_eq_true c40
                                            clear c40
                                            by_cases c41 : a2 < ((rd_L1 x10_18 x13_4).length : Int)
                                            · rw [if_pos c41] at H
                                              have c41b0 : decide (a2 < ((rd_L1 x10_18 x13_4).length : Int)) = true := decide_eq_true c41
                                              clear c41
                                              by_cases c42 : (rd (rd_L1 x10_18 x13_4) a1) = (rd (rd_L1 x10_18 x13_4) a2)
                                              · rw [if_pos c42] at H
                                                have c42b0 : ((rd (rd_L1 x10_18 x13_4) a1) == (rd (rd_L1 x10_18 x13_4) a2)) = true := beq_iff_eq.mpr c42
                                                have c42b1 : ((rd (rd_L1 x10_18 x13_4) a1) != (rd (rd_L1 x10_18 x13_4) a2)) = false := bne_eq_false_iff_eq.mpr c42
                                                clear c42
                                                obtain rfl := Option.some.inj H
                                                have p299 : 0 ≤ (x13_4 : Int) := of_decide_eq_true (by first | (with_reducible assumption) | assumption)
                                                have q299 : x13_4 < (x10_18.length : Int) := of_decide_eq_true (by first | (with_reducible assumption) | assumption)
                                                obtain ⟨ad299, A299_0, c299_0, e299, hx299_0, hl299_0, hi299_0⟩ := at_L1 (Kd.S_reads' HO_10.out).2.2 x13_4 p299 q299
                                                cases e299
                                                obtain ⟨ce299, hce299, hMe299, hcc299⟩ := Kd.S_get HO_10.out [] x13_4 p299 (by first | exact q299 | exact of_decide_eq_true (by first | (with_reducible assumption) | assumption) | (have e_ := (Kd.S_reads' HO_10.out).1; omega))
                                                obtain ⟨ve299_0, rfl, ge299_0⟩ := hMe299
                                                have hv299_0 := hcc299 0 _ rfl
                                                rw [Nat.add_zero, show ((Kd.slice 3 (Kd.int .i64))).sz = 1 from rfl, Nat.mul_one] at hv299_0
                                                replace hv299_0 := Option.some.inj (hv299_0.symm.trans hx299_0)
                                                rw [hv299_0] at ge299_0
                                                have HL299_0 := Aside0.mk (show Kd.R (Kd.int .i64) 3 _ _ _ _ (rd_L1 x10_18 x13_4) from ge299_0)
                                                clear hv299_0 ge299_0
                                                clear hcc299 hce299
                                                have HR299_0 := Aside0.mk hi299_0
                                                have HC299_0 := Aside0.mk hl299_0
                                                clear hi299_0 hl299_0
                                                replace p299 := eq_true p299
                                                replace q299 := eq_true q299
                                                have p300 : 0 ≤ (a1 : Int) := of_decide_eq_true (by first | (with_reducible assumption) | assumption)
                                                have q300 : a1 < ((rd_L1 x10_18 x13_4).length : Int) := of_decide_eq_true (by first | (with_reducible assumption) | assumption)
                                                obtain ⟨ad300, e300, hx300_0⟩ := Kd.at_int (by repeat (first | (with_reducible exact HR299_0.out) | (with_reducible refine Kd.C_alloc ?_ _) | (with_reducible refine Kd.C_drewN ?_ _) | (with_reducible refine Kd.C_drew ?_) | exact HR299_0.out)) a1 p300 q300
                                                cases e300
                                                replace p300 := eq_true p300
                                                replace q300 := eq_true q300
                                                have p305 : 0 ≤ (x13_4 : Int) := of_decide_eq_true (by first | (with_reducible assumption) | assumption)
                                                have q305 : x13_4 < (x10_18.length : Int) := of_decide_eq_true (by first | (with_reducible assumption) | assumption)
                                                obtain ⟨ad305, A305_0, c305_0, e305, hx305_0, hl305_0, hi305_0⟩ := at_L1 (Kd.S_reads' HO_10.out).2.2 x13_4 p305 q305
                                                obtain rfl : ad299 = ad305 := (by injection e305)
                                                obtain ⟨ce305, hce305, hMe305, hcc305⟩ := Kd.S_get HO_10.out [] x13_4 p305 (by first | exact q305 | exact of_decide_eq_true (by first | (with_reducible assumption) | assumption) | (have e_ := (Kd.S_reads' HO_10.out).1; omega))
                                                obtain ⟨ve305_0, rfl, ge305_0⟩ := hMe305
                                                have hv305_0 := hcc305 0 _ rfl
                                                rw [Nat.add_zero, show ((Kd.slice 3 (Kd.int .i64))).sz = 1 from rfl, Nat.mul_one] at hv305_0
                                                replace hv305_0 := Option.some.inj (hv305_0.symm.trans hx305_0)
                                                rw [hv305_0] at ge305_0
                                                have HL305_0 := Aside0.mk (show Kd.R (Kd.int .i64) 3 _ _ _ _ (rd_L1 x10_18 x13_4) from ge305_0)
                                                clear hv305_0 ge305_0
                                                clear hcc305 hce305
                                                have HR305_0 := Aside0.mk hi305_0
                                                have HC305_0 := Aside0.mk hl305_0
                                                clear hi305_0 hl305_0
                                                replace p305 := eq_true p305
                                                replace q305 := eq_true q305
                                                have ea_ := Option.some.inj (hx299_0.symm.trans hx305_0)
                                                injection ea_ with ea_ en_ ec_
                                                subst ea_
                                                subst ec_
                                                clear en_
                                                have p306 : 0 ≤ (a1 : Int) := of_decide_eq_true (by first | (with_reducible assumption) | assumption)
                                                have q306 : a1 < ((rd_L1 x10_18 x13_4).length : Int) := of_decide_eq_true (by first | (with_reducible assumption) | assumption)
                                                obtain ⟨ad306, e306, hx306_0⟩ := Kd.at_int (by repeat (first | (with_reducible exact HR305_0.out) | (with_reducible refine Kd.C_alloc ?_ _) | (with_reducible refine Kd.C_drewN ?_ _) | (with_reducible refine Kd.C_drew ?_) | exact HR305_0.out)) a1 p306 q306
                                                cases e306
                                                replace p306 := eq_true p306
                                                replace q306 := eq_true q306
                                                have p307 : 0 ≤ (x13_4 : Int) := of_decide_eq_true (by first | (with_reducible assumption) | assumption)
                                                have q307 : x13_4 < (x10_18.length : Int) := of_decide_eq_true (by first | (with_reducible assumption) | assumption)
                                                obtain ⟨ad307, A307_0, c307_0, e307, hx307_0, hl307_0, hi307_0⟩ := at_L1 (Kd.S_reads' HO_10.out).2.2 x13_4 p307 q307
                                                obtain rfl : ad299 = ad307 := (by injection e307)
                                                obtain ⟨ce307, hce307, hMe307, hcc307⟩ := Kd.S_get HO_10.out [] x13_4 p307 (by first | exact q307 | exact of_decide_eq_true (by first | (with_reducible assumption) | assumption) | (have e_ := (Kd.S_reads' HO_10.out).1; omega))
                                                obtain ⟨ve307_0, rfl, ge307_0⟩ := hMe307
                                                have hv307_0 := hcc307 0 _ rfl
                                                rw [Nat.add_zero, show ((Kd.slice 3 (Kd.int .i64))).sz = 1 from rfl, Nat.mul_one] at hv307_0
                                                replace hv307_0 := Option.some.inj (hv307_0.symm.trans hx307_0)
                                                rw [hv307_0] at ge307_0
                                                have HL307_0 := Aside0.mk (show Kd.R (Kd.int .i64) 3 _ _ _ _ (rd_L1 x10_18 x13_4) from ge307_0)
                                                clear hv307_0 ge307_0
                                                clear hcc307 hce307
                                                have HR307_0 := Aside0.mk hi307_0
                                                have HC307_0 := Aside0.mk hl307_0
                                                clear hi307_0 hl307_0
                                                replace p307 := eq_true p307
                                                replace q307 := eq_true q307
                                                have ea_ := Option.some.inj (hx299_0.symm.trans hx307_0)
                                                injection ea_ with ea_ en_ ec_
                                                subst ea_
                                                subst ec_
                                                clear en_
                                                have p308 : 0 ≤ (a2 : Int) := of_decide_eq_true (by first | (with_reducible assumption) | assumption)
                                                have q308 : a2 < ((rd_L1 x10_18 x13_4).length : Int) := of_decide_eq_true (by first | (with_reducible assumption) | assumption)
                                                obtain ⟨ad308, e308, hx308_0⟩ := Kd.at_int (by repeat (first | (with_reducible exact HR307_0.out) | (with_reducible refine Kd.C_alloc ?_ _) | (with_reducible refine Kd.C_drewN ?_ _) | (with_reducible refine Kd.C_drew ?_) | exact HR307_0.out)) a2 p308 q308
                                                cases e308
                                                replace p308 := eq_true p308
                                                replace q308 := eq_true q308
                                                go_wp2
                                                repeat (go_quiet (fail); try go_wp2)
                                                go_ret
                                                exact ⟨by first | rfl | (simp [errW_none, errW_some] <;> rfl) | (simp [*, errW_none, errW_some] <;> rfl), by repeat (first | (with_reducible first | exact HB.out | apply below_alloc | apply pw_below_drewN | apply below_drew1) | exact HB.out)⟩
                                              · rw [if_neg c42] at H
                                                have c42b0 : ((rd (rd_L1 x10_18 x13_4) a1) == (rd (rd_L1 x10_18 x13_4) a2)) = false := beq_eq_false_iff_ne.mpr c42
                                                have c42b1 : ((rd (rd_L1 x10_18 x13_4) a1) != (rd (rd_L1 x10_18 x13_4) a2)) = true := bne_iff_ne.mpr c42
                                                have H' := Aside0.mk H
                                                clear H
                                                have p299 : 0 ≤ (x13_4 : Int) := of_decide_eq_true (by first | (with_reducible assumption) | assumption)
                                                have q299 : x13_4 < (x10_18.length : Int) := of_decide_eq_true (by first | (with_reducible assumption) | assumption)
                                                obtain ⟨ad299, A299_0, c299_0, e299, hx299_0, hl299_0, hi299_0⟩ := at_L1 (Kd.S_reads' HO_10.out).2.2 x13_4 p299 q299
                                                cases e299
                                                obtain ⟨ce299, hce299, hMe299, hcc299⟩ := Kd.S_get HO_10.out [] x13_4 p299 (by first | exact q299 | exact of_decide_eq_true (by first | (with_reducible assumption) | assumption) | (have e_ := (Kd.S_reads' HO_10.out).1; omega))
                                                obtain ⟨ve299_0, rfl, ge299_0⟩ := hMe299
                                                have hv299_0 := hcc299 0 _ rfl
                                                rw [Nat.add_zero, show ((Kd.slice 3 (Kd.int .i64))).sz = 1 from rfl, Nat.mul_one] at hv299_0
                                                replace hv299_0 := Option.some.inj (hv299_0.symm.trans hx299_0)
                                                rw [hv299_0] at ge299_0
                                                have HL299_0 := Aside0.mk (show Kd.R (Kd.int .i64) 3 _ _ _ _ (rd_L1 x10_18 x13_4) from ge299_0)
                                                clear hv299_0 ge299_0
                                                clear hcc299 hce299
                                                have HR299_0 := Aside0.mk hi299_0
                                                have HC299_0 := Aside0.mk hl299_0
                                                clear hi299_0 hl299_0
                                                replace p299 := eq_true p299
                                                replace q299 := eq_true q299
                                                have p300 : 0 ≤ (a1 : Int) := of_decide_eq_true (by first | (with_reducible assumption) | assumption)
                                                have q300 : a1 < ((rd_L1 x10_18 x13_4).length : Int) := of_decide_eq_true (by first | (with_reducible assumption) | assumption)
                                                obtain ⟨ad300, e300, hx300_0⟩ := Kd.at_int (by repeat (first | (with_reducible exact HR299_0.out) | (with_reducible refine Kd.C_alloc ?_ _) | (with_reducible refine Kd.C_drewN ?_ _) | (with_reducible refine Kd.C_drew ?_) | exact HR299_0.out)) a1 p300 q300
                                                cases e300
                                                replace p300 := eq_true p300
                                                replace q300 := eq_true q300
                                                have p305 : 0 ≤ (x13_4 : Int) := of_decide_eq_true (by first | (with_reducible assumption) | assumption)
                                                have q305 : x13_4 < (x10_18.length : Int) := of_decide_eq_true (by first | (with_reducible assumption) | assumption)
                                                obtain ⟨ad305, A305_0, c305_0, e305, hx305_0, hl305_0, hi305_0⟩ := at_L1 (Kd.S_reads' HO_10.out).2.2 x13_4 p305 q305
                                                obtain rfl : ad299 = ad305 := (by injection e305)
                                                obtain ⟨ce305, hce305, hMe305, hcc305⟩ := Kd.S_get HO_10.out [] x13_4 p305 (by first | exact q305 | exact of_decide_eq_true (by first | (with_reducible assumption) | assumption) | (have e_ := (Kd.S_reads' HO_10.out).1; omega))
                                                obtain ⟨ve305_0, rfl, ge305_0⟩ := hMe305
                                                have hv305_0 := hcc305 0 _ rfl
                                                rw [Nat.add_zero, show ((Kd.slice 3 (Kd.int .i64))).sz = 1 from rfl, Nat.mul_one] at hv305_0
                                                replace hv305_0 := Option.some.inj (hv305_0.symm.trans hx305_0)
                                                rw [hv305_0] at ge305_0
                                                have HL305_0 := Aside0.mk (show Kd.R (Kd.int .i64) 3 _ _ _ _ (rd_L1 x10_18 x13_4) from ge305_0)
                                                clear hv305_0 ge305_0
                                                clear hcc305 hce305
                                                have HR305_0 := Aside0.mk hi305_0
                                                have HC305_0 := Aside0.mk hl305_0
                                                clear hi305_0 hl305_0
                                                replace p305 := eq_true p305
                                                replace q305 := eq_true q305
                                                have ea_ := Option.some.inj (hx299_0.symm.trans hx305_0)
                                                injection ea_ with ea_ en_ ec_
                                                subst ea_
                                                subst ec_
                                                clear en_
                                                have p306 : 0 ≤ (a1 : Int) := of_decide_eq_true (by first | (with_reducible assumption) | assumption)
                                                have q306 : a1 < ((rd_L1 x10_18 x13_4).length : Int) := of_decide_eq_true (by first | (with_reducible assumption) | assumption)
                                                obtain ⟨ad306, e306, hx306_0⟩ := Kd.at_int (by repeat (first | (with_reducible exact HR305_0.out) | (with_reducible refine Kd.C_alloc ?_ _) | (with_reducible refine Kd.C_drewN ?_ _) | (with_reducible refine Kd.C_drew ?_) | exact HR305_0.out)) a1 p306 q306
                                                cases e306
                                                replace p306 := eq_true p306
                                                replace q306 := eq_true q306
                                                have p307 : 0 ≤ (x13_4 : Int) := of_decide_eq_true (by first | (with_reducible assumption) | assumption)
                                                have q307 : x13_4 < (x10_18.length : Int) := of_decide_eq_true (by first | (with_reducible assumption) | assumption)
                                                obtain ⟨ad307, A307_0, c307_0, e307, hx307_0, hl307_0, hi307_0⟩ := at_L1 (Kd.S_reads' HO_10.out).2.2 x13_4 p307 q307
                                                obtain rfl : ad299 = ad307 := (by injection e307)
                                                obtain ⟨ce307, hce307, hMe307, hcc307⟩ := Kd.S_get HO_10.out [] x13_4 p307 (by first | exact q307 | exact of_decide_eq_true (by first | (with_reducible assumption) | assumption) | (have e_ := (Kd.S_reads' HO_10.out).1; omega))
                                                obtain ⟨ve307_0, rfl, ge307_0⟩ := hMe307
                                                have hv307_0 := hcc307 0 _ rfl
                                                rw [Nat.add_zero, show ((Kd.slice 3 (Kd.int .i64))).sz = 1 from rfl, Nat.mul_one] at hv307_0
                                                replace hv307_0 := Option.some.inj (hv307_0.symm.trans hx307_0)
                                                rw [hv307_0] at ge307_0
                                                have HL307_0 := Aside0.mk (show Kd.R (Kd.int .i64) 3 _ _ _ _ (rd_L1 x10_18 x13_4) from ge307_0)
                                                clear hv307_0 ge307_0
                                                clear hcc307 hce307
                                                have HR307_0 := Aside0.mk hi307_0
                                                have HC307_0 := Aside0.mk hl307_0
                                                clear hi307_0 hl307_0
                                                replace p307 := eq_true p307
                                                replace q307 := eq_true q307
                                                have ea_ := Option.some.inj (hx299_0.symm.trans hx307_0)
                                                injection ea_ with ea_ en_ ec_
                                                subst ea_
                                                subst ec_
                                                clear en_
                                                have p308 : 0 ≤ (a2 : Int) := of_decide_eq_true (by first | (with_reducible assumption) | assumption)
                                                have q308 : a2 < ((rd_L1 x10_18 x13_4).length : Int) := of_decide_eq_true (by first | (with_reducible assumption) | assumption)
                                                obtain ⟨ad308, e308, hx308_0⟩ := Kd.at_int (by repeat (first | (with_reducible exact HR307_0.out) | (with_reducible refine Kd.C_alloc ?_ _) | (with_reducible refine Kd.C_drewN ?_ _) | (with_reducible refine Kd.C_drew ?_) | exact HR307_0.out)) a2 p308 q308
                                                cases e308
                                                replace p308 := eq_true p308
                                                replace q308 := eq_true q308
                                                go_wp2
                                                repeat (go_quiet (fail); try go_wp2)
                                                go_roundg k4
                                                case measure => have := HJ6.out; have := HK2.out; have := HJ18.out; have := HK4.out; omega
                                                case rel => exact ⟨(x12_4), (wrap64 (x13_4 + 1)), (by first | rfl | (simp; done) | (simp [*]; done)), (by first | rfl | (simp; done) | (simp [*]; done)), H', ⟨by have := HJ6.out; have := HK2.out; have := HJ18.out; have := HK4.out; omega⟩, ⟨by (with_reducible repeat (first | apply Kd.S_alloc | apply Kd.S_drewN | apply Kd.S_drew)); exact HO_10.out⟩, ⟨by repeat (first | (with_reducible first | exact HB.out | apply below_alloc | apply pw_below_drewN | apply below_drew1) | exact HB.out)⟩⟩
                                            · rw [if_neg c41] at H
                                              exact absurd H (by simp)
                                          · rw [if_neg c40] at H
                                            exact absurd H (by simp)
                                    · rw [if_neg c33] at H
                                      exact absurd H (by simp)
                                  · rw [if_neg c32] at H
                                    exact absurd H (by simp)
                                · rw [if_neg c31] at H
                                  exact absurd H (by simp)
                              · rw [if_neg c30] at H
                                exact absurd H (by simp)
                            · rw [if_neg c29] at H
                              have c29b0 : decide (x13_4 < a0) = false := decide_eq_false c29
                              clear c29
                              by_cases c43 : x12_4 = 1
                              · rw [if_pos c43] at H
                                have c43b0 : (x12_4 == 1) = true := beq_iff_eq.mpr c43
                                have c43b1 : (x12_4 != 1) = false := bne_eq_false_iff_eq.mpr c43
                                clear c43
                                have H' := Aside0.mk H
                                clear H
                                go_wp2
                                repeat (go_quiet (fail); try go_wp2)
                                go_roundg k4
                                case measure => have := HJ6.out; have := HK2.out; have := HJ18.out; have := HK4.out; omega
                                case rel => exact ⟨(wrap64 (x9_2 + 1)), (by first | rfl | (simp; done) | (simp [*]; done)), H', ⟨by have := HJ6.out; have := HK2.out; have := HJ18.out; have := HK4.out; omega⟩, ⟨by repeat (first | (with_reducible first | exact HB.out | apply below_alloc | apply pw_below_drewN | apply below_drew1) | exact HB.out)⟩⟩
                              · rw [if_neg c43] at H
                                have c43b0 : (x12_4 == 1) = false := beq_eq_false_iff_ne.mpr c43
                                have c43b1 : (x12_4 != 1) = true := bne_iff_ne.mpr c43
                                obtain rfl := Option.some.inj H
                                go_wp2
                                repeat (go_quiet (fail); try go_wp2)
                                go_ret
                                exact ⟨by first | rfl | (simp [errW_none, errW_some] <;> rfl) | (simp [*, errW_none, errW_some] <;> rfl), by repeat (first | (with_reducible first | exact HB.out | apply below_alloc | apply pw_below_drewN | apply below_drew1) | exact HB.out)⟩
                      · replace c26 := Bool.eq_false_iff.mpr c26
                        subst c26
                        have H1 : (some false) = some r := by rw [if_neg (show ¬ (false = true) by decide)] at H; exact H
                        clear H
                        have H := H1
                        clear H1
                        obtain rfl := Option.some.inj H
                        obtain ⟨Ao44, co44, eo44⟩ := Kd.S_slice HO_10.out
                        subst eo44
                        go_wp2_with (first | (go_at_call 19; (with_reducible refine (rotation_Latin.calls kj18 _ _ x10_18 false _ ?side1 ?side2 A25.out).mono ?_); (case side1 => repeat (first | exact (Kd.S_reads' HO_10.out).2.2 | (with_reducible refine Kd.C_alloc ?_ _) | (with_reducible refine Kd.C_drewN ?_ _) | (with_reducible refine Kd.C_drew ?_))); (case side2 => exact (Kd.S_reads' HO_10.out).2.1); rintro e w45 ⟨rfl, hb⟩; have n0_ := Aside0.mk (Kd.S_below (by (with_reducible repeat (first | apply Kd.S_alloc | apply Kd.S_drewN | apply Kd.S_drew)); exact HO_10.out) hb); have n1_ := Aside0.mk (below_step (by repeat (first | (with_reducible first | exact HB.out | apply below_alloc | apply pw_below_drewN | apply below_drew1) | exact HB.out)) hb); clear HO_10; clear HB; have HO_10 := n0_; have HB := n1_; clear n0_ n1_; (try clear hb); (try clear hb2); (try clear hk); (try clear hi)))
                        repeat (go_quiet (first | (go_at_call 19; (with_reducible refine (rotation_Latin.calls kj18 _ _ x10_18 false _ ?side1 ?side2 A25.out).mono ?_); (case side1 => repeat (first | exact (Kd.S_reads' HO_10.out).2.2 | (with_reducible refine Kd.C_alloc ?_ _) | (with_reducible refine Kd.C_drewN ?_ _) | (with_reducible refine Kd.C_drew ?_))); (case side2 => exact (Kd.S_reads' HO_10.out).2.1); rintro e w45 ⟨rfl, hb⟩; have n0_ := Aside0.mk (Kd.S_below (by (with_reducible repeat (first | apply Kd.S_alloc | apply Kd.S_drewN | apply Kd.S_drew)); exact HO_10.out) hb); have n1_ := Aside0.mk (below_step (by repeat (first | (with_reducible first | exact HB.out | apply below_alloc | apply pw_below_drewN | apply below_drew1) | exact HB.out)) hb); clear HO_10; clear HB; have HO_10 := n0_; have HB := n1_; clear n0_ n1_; (try clear hb); (try clear hb2); (try clear hk); (try clear hi))); try go_wp2_with (first | (go_at_call 19; (with_reducible refine (rotation_Latin.calls kj18 _ _ x10_18 false _ ?side1 ?side2 A25.out).mono ?_); (case side1 => repeat (first | exact (Kd.S_reads' HO_10.out).2.2 | (with_reducible refine Kd.C_alloc ?_ _) | (with_reducible refine Kd.C_drewN ?_ _) | (with_reducible refine Kd.C_drew ?_))); (case side2 => exact (Kd.S_reads' HO_10.out).2.1); rintro e w45 ⟨rfl, hb⟩; have n0_ := Aside0.mk (Kd.S_below (by (with_reducible repeat (first | apply Kd.S_alloc | apply Kd.S_drewN | apply Kd.S_drew)); exact HO_10.out) hb); have n1_ := Aside0.mk (below_step (by repeat (first | (with_reducible first | exact HB.out | apply below_alloc | apply pw_below_drewN | apply below_drew1) | exact HB.out)) hb); clear HO_10; clear HB; have HO_10 := n0_; have HB := n1_; clear n0_ n1_; (try clear hb); (try clear hb2); (try clear hk); (try clear hi))))
                        go_ret
                        exact ⟨by first | rfl | (simp [errW_none, errW_some] <;> rfl) | (simp [*, errW_none, errW_some] <;> rfl), by repeat (first | (with_reducible first | exact HB.out | apply below_alloc | apply pw_below_drewN | apply below_drew1) | exact HB.out)⟩
                    · rw [if_neg c24] at H
                      have c24b0 : (x11_18 == 0) = false := beq_eq_false_iff_ne.mpr c24
                      have c24b1 : (x11_18 != 0) = true := bne_iff_ne.mpr c24
                      by_cases c46 : x9_2 = 0
                      · rw [if_pos c46] at H
                        have c46b0 : (x9_2 == 0) = true := beq_iff_eq.mpr c46
                        have c46b1 : (x9_2 != 0) = false := bne_eq_false_iff_eq.mpr c46
                        clear c46
                        obtain rfl := Option.some.inj H
                        go_wp2
                        repeat (go_quiet (fail); try go_wp2)
                        go_ret
                        exact ⟨by first | rfl | (simp [errW_none, errW_some] <;> rfl) | (simp [*, errW_none, errW_some] <;> rfl), by repeat (first | (with_reducible first | exact HB.out | apply below_alloc | apply pw_below_drewN | apply below_drew1) | exact HB.out)⟩
                      · rw [if_neg c46] at H
                        have c46b0 : (x9_2 == 0) = false := beq_eq_false_iff_ne.mpr c46
                        have c46b1 : (x9_2 != 0) = true := bne_iff_ne.mpr c46
                        by_cases c47 : (Int.tmod a0 2) = 0
                        · rw [if_pos c47] at H
                          have c47b0 : ((Int.tmod a0 2) == 0) = true := beq_iff_eq.mpr c47
                          have c47b1 : ((Int.tmod a0 2) != 0) = false := bne_eq_false_iff_eq.mpr c47
                          clear c47
                          obtain rfl := Option.some.inj H
                          go_wp2
                          repeat (go_quiet (fail); try go_wp2)
                          go_ret
                          exact ⟨by first | rfl | (simp [errW_none, errW_some] <;> rfl) | (simp [*, errW_none, errW_some] <;> rfl), by repeat (first | (with_reducible first | exact HB.out | apply below_alloc | apply pw_below_drewN | apply below_drew1) | exact HB.out)⟩
                        · rw [if_neg c47] at H
                          have c47b0 : ((Int.tmod a0 2) == 0) = false := beq_eq_false_iff_ne.mpr c47
                          have c47b1 : ((Int.tmod a0 2) != 0) = true := bne_iff_ne.mpr c47
                          have H' := Aside0.mk H
                          clear H
                          go_wp2
                          repeat (go_quiet (fail); try go_wp2)
                          go_roundg kj18
                          case measure => have := HJ6.out; have := HK2.out; have := HJ18.out; omega
                          case rel => exact ⟨(wrap64 (x9_2 + 1)), (by first | rfl | (simp; done) | (simp [*]; done)), H', ⟨by have := HJ6.out; have := HK2.out; have := HJ18.out; omega⟩, ⟨by repeat (first | (with_reducible first | exact HB.out | apply below_alloc | apply pw_below_drewN | apply below_drew1) | exact HB.out)⟩⟩
              · rw [if_neg c17] at H
                have c17b0 : decide (x9_2 < 2) = false := decide_eq_false c17
                clear c17
                obtain rfl := Option.some.inj H
                go_wp2
                repeat (go_quiet (fail); try go_wp2)
                go_ret
                exact ⟨by first | rfl | (simp [errW_none, errW_some] <;> rfl) | (simp [*, errW_none, errW_some] <;> rfl), by repeat (first | (with_reducible first | exact HB.out | apply below_alloc | apply pw_below_drewN | apply below_drew1) | exact HB.out)⟩
  · replace c6 := Bool.eq_false_iff.mpr c6
    subst c6
    have H1 : (some false) = some r := by rw [if_neg (show ¬ (false = true) by decide)] at H; exact H
    clear H
    have H := H1
    clear H1
    obtain rfl := Option.some.inj H
    go_enter Try.func4, Try.ntmps4
    go_wp2_with (first | (go_at_call 13; (with_reducible refine (salchowlaw36_awake.calls k  false _ A5.out).mono ?_); rintro e w48 ⟨rfl, hb⟩; have n0_ := Aside0.mk (below_step (by repeat (first | (with_reducible first | exact HB.out | apply below_alloc | apply pw_below_drewN | apply below_drew1) | exact HB.out)) hb); clear HB; have HB := n0_; clear n0_; (try clear hb); (try clear hb2); (try clear hk); (try clear hi)))
    repeat (go_quiet (first | (go_at_call 13; (with_reducible refine (salchowlaw36_awake.calls k  false _ A5.out).mono ?_); rintro e w48 ⟨rfl, hb⟩; have n0_ := Aside0.mk (below_step (by repeat (first | (with_reducible first | exact HB.out | apply below_alloc | apply pw_below_drewN | apply below_drew1) | exact HB.out)) hb); clear HB; have HB := n0_; clear n0_; (try clear hb); (try clear hb2); (try clear hk); (try clear hi))); try go_wp2_with (first | (go_at_call 13; (with_reducible refine (salchowlaw36_awake.calls k  false _ A5.out).mono ?_); rintro e w48 ⟨rfl, hb⟩; have n0_ := Aside0.mk (below_step (by repeat (first | (with_reducible first | exact HB.out | apply below_alloc | apply pw_below_drewN | apply below_drew1) | exact HB.out)) hb); clear HB; have HB := n0_; clear n0_; (try clear hb); (try clear hb2); (try clear hk); (try clear hi))))
    go_ret
    exact ⟨by first | rfl | (simp [errW_none, errW_some] <;> rfl) | (simp [*, errW_none, errW_some] <;> rfl), by repeat (first | (with_reducible first | exact HB.out | apply below_alloc | apply pw_below_drewN | apply below_drew1) | exact HB.out)⟩

/-- THE ONE PURE STATEMENT of salchowlaw36_RotationOnce: yours. -/
def salchowlaw36_RotationOnce.Pure : Prop := ∀ (a0 : Int) (a1 : Int) (a2 : Int) (a3 : Int), (Lit.int .i64 a0).wf = true → (Lit.int .i64 a1).wf = true → (Lit.int .i64 a2).wf = true → (Lit.int .i64 a3).wf = true → ∃ k, salchowlaw36_RotationOnce.f k a0 a1 a2 a3 = some true
theorem salchowlaw36_RotationOnce.walk (P : salchowlaw36_RotationOnce.Pure) (a0 : Int) (a1 : Int) (a2 : Int) (a3 : Int) (w : World) (w0 : (Lit.int .i64 a0).wf = true) (w1 : (Lit.int .i64 a1).wf = true) (w2 : (Lit.int .i64 a2).wf = true) (w3 : (Lit.int .i64 a3).wf = true) :
    Calls Try.prog 4 #[.int .i64 a0, .int .i64 a1, .int .i64 a2, .int .i64 a3] w fun e w' => e = .returned (.bool true) ∧ Below w.heap.size w w' := by
  obtain ⟨k, h⟩ := P a0 a1 a2 a3 w0 w1 w2 w3
  refine (salchowlaw36_RotationOnce.calls k a0 a1 a2 a3 true w h).mono ?_
  rintro e w' ⟨rfl, hd⟩
  exact ⟨rfl, hd⟩

end Go.Proofs.Ytaodpgblleiiaaa.P
