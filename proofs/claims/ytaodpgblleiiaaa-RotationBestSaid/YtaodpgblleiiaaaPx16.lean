-- out of a program (drive.sh), by way of the translation's print
import Derived.Test.YtaodpgblleiiaaaPx0
import Derived.Test.YtaodpgblleiiaaaPx9
import Derived.Test.YtaodpgblleiiaaaPx14
import Derived.Test.YtaodpgblleiiaaaPx15
namespace Go.Proofs.Ytaodpgblleiiaaa.P
open Go.RowKit Go.Proofs.YtaodpgblleiiaaaW.PrintWords Go.Proofs.YtaodpgblleiiaaaW.PrintLast Go.Proofs.YtaodpgblleiiaaaW.PrintMore
attribute [local go_sem] max2_int min2_int max_two min_two max_three min_three max_four min_four   -- for this text's walks alone
set_option linter.unusedVariables false
set_option linter.unusedSimpArgs false

/-! ### rotation_Timetable: function 27 -/
def rotation_Timetable.j0 : Nat → List (List Int) → List Int → List Int → Int → Bool → Option (List Int × Int)
  | 0, _, _, _, _, _ => none
  | k + 1, x0, x1, x2, x3, x27 => if x27 = true then (some (([] : List Int), 1)) else ((rotation_ranges.f x1 x2 x3).bind fun t168 => (if t168 = 0 then ((rotation_times.f k x0 x1 x2 x3).bind fun t169 => (some (t169, 0))) else (some (([] : List Int), t168))))
def rotation_Timetable.f (k : Nat) (l0 : List (List Int)) (l1 : List Int) (l2 : List Int) (a3 : Int) : Option (List Int × Int) := (rotation_Latin.f k l0).bind fun t167 => (if t167 = true then (if (l1.length : Int) = (l0.length : Int) then (rotation_Timetable.j0 k l0 l1 l2 a3 ((l2.length : Int) != (l0.length : Int))) else (rotation_Timetable.j0 k l0 l1 l2 a3 true)) else (rotation_Timetable.j0 k l0 l1 l2 a3 true))
theorem rotation_Timetable.mono_l : ∀ k, (∀ y0 y1 y2 y3 y4, LeO (rotation_Timetable.j0 k y0 y1 y2 y3 y4) (rotation_Timetable.j0 (k + 1) y0 y1 y2 y3 y4))
  | 0 => fun _ _ _ _ _ r h => by simp [rotation_Timetable.j0] at h
  | k + 1 => by
    have ih0 := rotation_Timetable.mono_l k
    · intro y0 y1 y2 y3 y4
      unfold rotation_Timetable.j0
      repeat' first
      | (with_reducible exact ih0 _ _ _ _ _)
      | (with_reducible exact rotation_Latin.mono _ _)
      | (with_reducible exact rotation_times.mono _ _ _ _ _)
      | (with_reducible exact LeO.refl _)
      | (with_reducible exact LeO.none _)
      | (with_reducible refine LeO.ite ?_ ?_)
      | (with_reducible refine LeO.bind ?_ (fun _ => ?_))
      | exact ih0 _ _ _ _ _
      | exact rotation_Latin.mono _ _
      | exact rotation_times.mono _ _ _ _ _
      | exact LeO.none _
      | refine LeO.ite ?_ ?_
      | refine LeO.bind ?_ (fun _ => ?_)
theorem rotation_Timetable.mono : ∀ a0 a1 a2 a3 k, LeO (rotation_Timetable.f k a0 a1 a2 a3) (rotation_Timetable.f (k + 1) a0 a1 a2 a3) := by
  intro a0 a1 a2 a3 k
  have ih0 := rotation_Timetable.mono_l k
  unfold rotation_Timetable.f
  repeat' first
      | (with_reducible exact ih0 _ _ _ _ _)
      | (with_reducible exact rotation_Latin.mono _ _)
      | (with_reducible exact rotation_times.mono _ _ _ _ _)
      | (with_reducible exact LeO.refl _)
      | (with_reducible exact LeO.none _)
      | (with_reducible refine LeO.ite ?_ ?_)
      | (with_reducible refine LeO.bind ?_ (fun _ => ?_))
      | exact ih0 _ _ _ _ _
      | exact rotation_Latin.mono _ _
      | exact rotation_times.mono _ _ _ _ _
      | exact LeO.none _
      | refine LeO.ite ?_ ?_
      | refine LeO.bind ?_ (fun _ => ?_)
set_option maxHeartbeats 8000000 in
set_option maxRecDepth 100000 in
theorem rotation_Timetable.calls (k : Nat) (A0 : Option Addr) (c0 : Nat) (l0 : List (List Int)) (A1 : Option Addr) (c1 : Nat) (l1 : List Int) (A2 : Option Addr) (c2 : Nat) (l2 : List Int) (a3 : Int) (r1 : List Int) (r2 : Int) (w : World) (hr0 : Kd.C (Kd.slice 3 (Kd.int .i64)) w A0 l0.length l0) (hc0 : l0.length ≤ c0) (hr1 : Kd.C (Kd.int .i64) w A1 l1.length l1) (hc1 : l1.length ≤ c1) (hr2 : Kd.C (Kd.int .i64) w A2 l2.length l2) (hc2 : l2.length ≤ c2) (h : rotation_Timetable.f k l0 l1 l2 a3 = some (r1, r2)) :
    Calls Try.prog 27 #[.slice A0 l0.length c0, .slice A1 l1.length c1, .slice A2 l2.length c2, .int .i64 a3] w fun e w' => ∃ v0_ : Value, e = .returned (.tuple #[v0_, .int .i64 r2]) ∧ Kd.R (Kd.int .i64) 3 w' w.heap.size (fun _ => True) v0_ r1 ∧ Below w.heap.size w w' := by
  have HR0 := Aside0.mk hr0
  have HC0 := Aside0.mk hc0
  clear hr0 hc0
  have HR1 := Aside0.mk hr1
  have HC1 := Aside0.mk hc1
  clear hr1 hc1
  have HR2 := Aside0.mk hr2
  have HC2 := Aside0.mk hc2
  clear hr2 hc2
  have HB := Aside0.mk (Below.refl w.heap.size w)
  have H : ((rotation_Latin.f k l0).bind fun t167 => (if t167 = true then (if (l1.length : Int) = (l0.length : Int) then (rotation_Timetable.j0 k l0 l1 l2 a3 ((l2.length : Int) != (l0.length : Int))) else (rotation_Timetable.j0 k l0 l1 l2 a3 true)) else (rotation_Timetable.j0 k l0 l1 l2 a3 true))) = some (r1, r2) := h
  clear h
  have HC5 := Aside0.mk H
  clear H
  go_enter Try.func27, Try.ntmps27
  go_upto_region 1 with (fail)
  go_cut [27] (fun v27 wc => ∃ (kq : Nat) (x27_4 : Bool), v27 = .bool x27_4 ∧ Aside0 (rotation_Timetable.j0 kq l0 l1 l2 a3 x27_4 = some (r1, r2)) ∧ Aside0 (kq ≤ k) ∧ Aside0 (Below w.heap.size w wc))
  case first =>
    have H := HC5.out
    clear HC5
    replace H := Option.bind_eq_some_iff.mp H
    obtain ⟨t167, A60, H⟩ := H
    replace H : (if t167 = true then (if (l1.length : Int) = (l0.length : Int) then (rotation_Timetable.j0 k l0 l1 l2 a3 ((l2.length : Int) != (l0.length : Int))) else (rotation_Timetable.j0 k l0 l1 l2 a3 true)) else (rotation_Timetable.j0 k l0 l1 l2 a3 true)) = some (r1, r2) := H
    have A6 := Aside0.mk A60
    clear A60
    by_cases c7 : t167 = true
    · subst c7
      have H1 : (if (l1.length : Int) = (l0.length : Int) then (rotation_Timetable.j0 k l0 l1 l2 a3 ((l2.length : Int) != (l0.length : Int))) else (rotation_Timetable.j0 k l0 l1 l2 a3 true)) = some (r1, r2) := by rw [if_pos rfl] at H; exact H
      clear H
      have H := H1
      clear H1
      by_cases c8 : (l1.length : Int) = (l0.length : Int)
      · rw [if_pos c8] at H
        have c8b0 : ((l1.length : Int) == (l0.length : Int)) = true := beq_iff_eq.mpr c8
        have c8b1 : ((l1.length : Int) != (l0.length : Int)) = false := bne_eq_false_iff_eq.mpr c8
        have c8b2 : (l1.length == l0.length) = true := by first | simpa using c8 | (simp at c8 ⊢; omega)
        clear c8
        (first | rw [c8b0] | (simp only [i64_w, i32_w]; rw [c8b0]) | skip)
        have H' := Aside0.mk H
        clear H
        go_wp2_with (first | ((with_reducible refine gate_callee (f := 19) rfl ?_); refine goesL_ (some 12) rfl rfl Try.func19 (by kernel_rfl) rfl #[.slice A0 l0.length c0] rfl (by (try simp only [List.map_toArray, List.map_cons, List.map_nil]); first | done | rfl | (simp only [List.length_drop, List.length_take]; rfl)) ?_; (with_reducible refine (rotation_Latin.calls k _ _ l0 true _ ?side1 ?side2 A6.out).mono ?_); (case side1 => repeat (first | exact (Kd.C_below HR0.out HB.out) | (with_reducible apply Kd.C_alloc) | (with_reducible apply Kd.C_drewN) | (with_reducible apply Kd.C_drew))); (case side2 => exact HC0.out); rintro e w9 ⟨rfl, hb⟩; refine ⟨_, rfl, ?_⟩; have n0_ := Aside0.mk (below_step (by repeat (first | (with_reducible first | exact HB.out | apply below_alloc | apply pw_below_drewN | apply below_drew1) | exact HB.out)) hb); clear HB; have HB := n0_; clear n0_; (try clear hb); (try clear hb2); (try clear hk); (try clear hi)))
        go_meet
        case rel => exact ⟨_, (((l2.length : Int) != (l0.length : Int))), (by first | rfl | (simp; done) | (simp [*]; done)), H', ⟨by first | omega | exact Nat.le_refl _⟩, ⟨by repeat (first | (with_reducible first | exact HB.out | apply below_alloc | apply pw_below_drewN | apply below_drew1) | exact HB.out)⟩⟩
      · rw [if_neg c8] at H
        have c8b0 : ((l1.length : Int) == (l0.length : Int)) = false := beq_eq_false_iff_ne.mpr c8
        have c8b1 : ((l1.length : Int) != (l0.length : Int)) = true := bne_iff_ne.mpr c8
        have c8b2 : (l1.length == l0.length) = false := by first | simpa using c8 | (simp at c8 ⊢; omega)
        (first | rw [c8b0] | (simp only [i64_w, i32_w]; rw [c8b0]) | skip)
        have H' := Aside0.mk H
        clear H
        go_wp2_with (first | ((with_reducible refine gate_callee (f := 19) rfl ?_); refine goesL_ (some 12) rfl rfl Try.func19 (by kernel_rfl) rfl #[.slice A0 l0.length c0] rfl (by (try simp only [List.map_toArray, List.map_cons, List.map_nil]); first | done | rfl | (simp only [List.length_drop, List.length_take]; rfl)) ?_; (with_reducible refine (rotation_Latin.calls k _ _ l0 true _ ?side1 ?side2 A6.out).mono ?_); (case side1 => repeat (first | exact (Kd.C_below HR0.out HB.out) | (with_reducible apply Kd.C_alloc) | (with_reducible apply Kd.C_drewN) | (with_reducible apply Kd.C_drew))); (case side2 => exact HC0.out); rintro e w10 ⟨rfl, hb⟩; refine ⟨_, rfl, ?_⟩; have n0_ := Aside0.mk (below_step (by repeat (first | (with_reducible first | exact HB.out | apply below_alloc | apply pw_below_drewN | apply below_drew1) | exact HB.out)) hb); clear HB; have HB := n0_; clear n0_; (try clear hb); (try clear hb2); (try clear hk); (try clear hi)))
        go_meet
        case rel => exact ⟨_, (true), (by first | rfl | (simp; done) | (simp [*]; done)), H', ⟨by first | omega | exact Nat.le_refl _⟩, ⟨by repeat (first | (with_reducible first | exact HB.out | apply below_alloc | apply pw_below_drewN | apply below_drew1) | exact HB.out)⟩⟩
    · replace c7 := Bool.eq_false_iff.mpr c7
      subst c7
      have H1 : (rotation_Timetable.j0 k l0 l1 l2 a3 true) = some (r1, r2) := by rw [if_neg (show ¬ (false = true) by decide)] at H; exact H
      clear H
      have H := H1
      clear H1
      have H' := Aside0.mk H
      clear H
      go_wp2_with (first | ((with_reducible refine gate_callee (f := 19) rfl ?_); refine goesL_ (some 12) rfl rfl Try.func19 (by kernel_rfl) rfl #[.slice A0 l0.length c0] rfl (by (try simp only [List.map_toArray, List.map_cons, List.map_nil]); first | done | rfl | (simp only [List.length_drop, List.length_take]; rfl)) ?_; (with_reducible refine (rotation_Latin.calls k _ _ l0 false _ ?side1 ?side2 A6.out).mono ?_); (case side1 => repeat (first | exact (Kd.C_below HR0.out HB.out) | (with_reducible apply Kd.C_alloc) | (with_reducible apply Kd.C_drewN) | (with_reducible apply Kd.C_drew))); (case side2 => exact HC0.out); rintro e w11 ⟨rfl, hb⟩; refine ⟨_, rfl, ?_⟩; have n0_ := Aside0.mk (below_step (by repeat (first | (with_reducible first | exact HB.out | apply below_alloc | apply pw_below_drewN | apply below_drew1) | exact HB.out)) hb); clear HB; have HB := n0_; clear n0_; (try clear hb); (try clear hb2); (try clear hk); (try clear hi)))
      go_meet
      case rel => exact ⟨_, (true), (by first | rfl | (simp; done) | (simp [*]; done)), H', ⟨by first | omega | exact Nat.le_refl _⟩, ⟨by repeat (first | (with_reducible first | exact HB.out | apply below_alloc | apply pw_below_drewN | apply below_drew1) | exact HB.out)⟩⟩
  case rest =>
    clear HC5
    try clear c1
    try clear c2
    try clear p2
    try clear c7
    try clear c8
    try clear c8b0
    try clear c8b1
    try clear c8b2
    obtain ⟨kq, x27_4, rfl, HA, HJ4, HB⟩ := hcut
    cases kq with
    | zero => exact absurd HA.out (by simp [rotation_Timetable.j0])
    | succ kj4 =>
      have H := HA.out
      clear HA
      simp only [rotation_Timetable.j0] at H
      by_cases c12 : x27_4 = true
      · subst c12
        have H1 : (some (([] : List Int), 1)) = some (r1, r2) := by rw [if_pos rfl] at H; exact H
        clear H
        have H := H1
        clear H1
        simp only [Option.some.injEq, Prod.mk.injEq] at H
        obtain ⟨rfl, rfl⟩ := H
        go_wp2
        go_ret2
        exact ⟨_, by first | rfl | (simp [errW_none, errW_some] <;> rfl) | (simp [*, errW_none, errW_some] <;> rfl), by first | exact Kd.R_nil _ _ _ _ _ | exact Kd.N_nil _ _ _ _ _ | exact Kd.V_nil _ _ _ _ _ | exact Kd.Q_nil _ _ _ _ _ | exact Kd.S_nil _ _ _ _ _, by repeat (first | (with_reducible first | exact HB.out | apply below_alloc | apply pw_below_drewN | apply below_drew1) | exact HB.out)⟩
      · replace c12 := Bool.eq_false_iff.mpr c12
        subst c12
        have H1 : ((rotation_ranges.f l1 l2 a3).bind fun t168 => (if t168 = 0 then ((rotation_times.f kj4 l0 l1 l2 a3).bind fun t169 => (some (t169, 0))) else (some (([] : List Int), t168)))) = some (r1, r2) := by rw [if_neg (show ¬ (false = true) by decide)] at H; exact H
        clear H
        have H := H1
        clear H1
        replace H := Option.bind_eq_some_iff.mp H
        obtain ⟨t168, A130, H⟩ := H
        replace H : (if t168 = 0 then ((rotation_times.f kj4 l0 l1 l2 a3).bind fun t169 => (some (t169, 0))) else (some (([] : List Int), t168))) = some (r1, r2) := H
        have A13 := Aside0.mk A130
        clear A130
        by_cases c14 : t168 = 0
        · rw [if_pos c14] at H
          have c14b0 : (t168 == 0) = true := beq_iff_eq.mpr c14
          have c14b1 : (t168 != 0) = false := bne_eq_false_iff_eq.mpr c14
          clear c14
          replace H := Option.bind_eq_some_iff.mp H
          obtain ⟨t169, A150, H⟩ := H
          replace H : (some (t169, 0)) = some (r1, r2) := H
          have A15 := Aside0.mk A150
          clear A150
          simp only [Option.some.injEq, Prod.mk.injEq] at H
          obtain ⟨rfl, rfl⟩ := H
          go_wp2_with (first | ((with_reducible refine gate_callee (f := 39) rfl ?_); refine goesL_ (some 31) rfl rfl Try.func39 (by kernel_rfl) rfl #[.slice A1 l1.length c1, .slice A2 l2.length c2, .int .i64 a3] rfl (by (try simp only [List.map_toArray, List.map_cons, List.map_nil]); first | done | rfl | (simp only [List.length_drop, List.length_take]; rfl)) ?_; (with_reducible refine (rotation_ranges.calls _ _ l1 _ _ l2 a3 t168 _ ?side1 ?side2 ?side3 ?side4 A13.out).mono ?_); (case side1 => repeat (first | exact (Kd.C_below HR1.out HB.out) | (with_reducible apply Kd.C_alloc) | (with_reducible apply Kd.C_drewN) | (with_reducible apply Kd.C_drew))); (case side2 => exact HC1.out); (case side3 => repeat (first | exact (Kd.C_below HR2.out HB.out) | (with_reducible apply Kd.C_alloc) | (with_reducible apply Kd.C_drewN) | (with_reducible apply Kd.C_drew))); (case side4 => exact HC2.out); rintro e w16 ⟨rfl, hb⟩; refine ⟨_, rfl, ?_⟩; have n0_ := Aside0.mk (below_step (by repeat (first | (with_reducible first | exact HB.out | apply below_alloc | apply pw_below_drewN | apply below_drew1) | exact HB.out)) hb); clear HB; have HB := n0_; clear n0_; (try clear hb); (try clear hb2); (try clear hk); (try clear hi)) | ((with_reducible refine gate_callee (f := 40) rfl ?_); refine goesL_ (some 39) rfl rfl Try.func40 (by kernel_rfl) rfl #[.slice A0 l0.length c0, .slice A1 l1.length c1, .slice A2 l2.length c2, .int .i64 a3] rfl (by (try simp only [List.map_toArray, List.map_cons, List.map_nil]); first | done | rfl | (simp only [List.length_drop, List.length_take]; rfl)) ?_; (with_reducible refine (rotation_times.calls kj4 _ _ l0 _ _ l1 _ _ l2 a3 t169 _ ?side1 ?side2 ?side3 ?side4 ?side5 ?side6 A15.out).mono ?_); (case side1 => repeat (first | exact (Kd.C_below HR0.out HB.out) | (with_reducible apply Kd.C_alloc) | (with_reducible apply Kd.C_drewN) | (with_reducible apply Kd.C_drew))); (case side2 => exact HC0.out); (case side3 => repeat (first | exact (Kd.C_below HR1.out HB.out) | (with_reducible apply Kd.C_alloc) | (with_reducible apply Kd.C_drewN) | (with_reducible apply Kd.C_drew))); (case side4 => exact HC1.out); (case side5 => repeat (first | exact (Kd.C_below HR2.out HB.out) | (with_reducible apply Kd.C_alloc) | (with_reducible apply Kd.C_drewN) | (with_reducible apply Kd.C_drew))); (case side6 => exact HC2.out); rintro e w17 ⟨v170, rfl, ho0, hb⟩; refine ⟨_, rfl, ?_⟩; have n0_ := Aside0.mk (Kd.R_lower ho0 (below_size (by repeat (first | (with_reducible first | exact HB.out | apply below_alloc | apply pw_below_drewN | apply below_drew1) | exact HB.out)))); have n1_ := Aside0.mk (below_step (by repeat (first | (with_reducible first | exact HB.out | apply below_alloc | apply pw_below_drewN | apply below_drew1) | exact HB.out)) hb); clear HB; have HO171 := n0_; have HB := n1_; clear n0_ n1_; (try clear hb); (try clear hb2); (try clear hk); (try clear hi); (try clear ho0)))
          go_ret2
          exact ⟨_, by first | rfl | (simp [errW_none, errW_some] <;> rfl) | (simp [*, errW_none, errW_some] <;> rfl), by (with_reducible repeat (first | apply Kd.R_alloc | apply Kd.R_drewN | apply Kd.R_drew)); exact HO171.out, by repeat (first | (with_reducible first | exact HB.out | apply below_alloc | apply pw_below_drewN | apply below_drew1) | exact HB.out)⟩
        · rw [if_neg c14] at H
          have c14b0 : (t168 == 0) = false := beq_eq_false_iff_ne.mpr c14
          have c14b1 : (t168 != 0) = true := bne_iff_ne.mpr c14
          simp only [Option.some.injEq, Prod.mk.injEq] at H
          obtain ⟨rfl, rfl⟩ := H
          go_wp2_with (first | ((with_reducible refine gate_callee (f := 39) rfl ?_); refine goesL_ (some 31) rfl rfl Try.func39 (by kernel_rfl) rfl #[.slice A1 l1.length c1, .slice A2 l2.length c2, .int .i64 a3] rfl (by (try simp only [List.map_toArray, List.map_cons, List.map_nil]); first | done | rfl | (simp only [List.length_drop, List.length_take]; rfl)) ?_; (with_reducible refine (rotation_ranges.calls _ _ l1 _ _ l2 a3 t168 _ ?side1 ?side2 ?side3 ?side4 A13.out).mono ?_); (case side1 => repeat (first | exact (Kd.C_below HR1.out HB.out) | (with_reducible apply Kd.C_alloc) | (with_reducible apply Kd.C_drewN) | (with_reducible apply Kd.C_drew))); (case side2 => exact HC1.out); (case side3 => repeat (first | exact (Kd.C_below HR2.out HB.out) | (with_reducible apply Kd.C_alloc) | (with_reducible apply Kd.C_drewN) | (with_reducible apply Kd.C_drew))); (case side4 => exact HC2.out); rintro e w18 ⟨rfl, hb⟩; refine ⟨_, rfl, ?_⟩; have n0_ := Aside0.mk (below_step (by repeat (first | (with_reducible first | exact HB.out | apply below_alloc | apply pw_below_drewN | apply below_drew1) | exact HB.out)) hb); clear HB; have HB := n0_; clear n0_; (try clear hb); (try clear hb2); (try clear hk); (try clear hi)))
          go_ret2
          exact ⟨_, by first | rfl | (simp [errW_none, errW_some] <;> rfl) | (simp [*, errW_none, errW_some] <;> rfl), by first | exact Kd.R_nil _ _ _ _ _ | exact Kd.N_nil _ _ _ _ _ | exact Kd.V_nil _ _ _ _ _ | exact Kd.Q_nil _ _ _ _ _ | exact Kd.S_nil _ _ _ _ _, by repeat (first | (with_reducible first | exact HB.out | apply below_alloc | apply pw_below_drewN | apply below_drew1) | exact HB.out)⟩

end Go.Proofs.Ytaodpgblleiiaaa.P
