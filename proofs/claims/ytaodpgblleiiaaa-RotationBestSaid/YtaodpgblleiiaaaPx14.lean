-- out of a program (drive.sh), by way of the translation's print
import Derived.Test.YtaodpgblleiiaaaPx0
namespace Go.Proofs.Ytaodpgblleiiaaa.P
open Go.RowKit Go.Proofs.YtaodpgblleiiaaaW.PrintWords Go.Proofs.YtaodpgblleiiaaaW.PrintLast Go.Proofs.YtaodpgblleiiaaaW.PrintMore
attribute [local go_sem] max2_int min2_int max_two min_two max_three min_three max_four min_four   -- for this text's walks alone
set_option linter.unusedVariables false
set_option linter.unusedSimpArgs false

/-! ### rotation_ranges: function 39 -/

def beyond (m n : Int) : Bool := if n < 0 then true else decide (n > m)

set_option maxHeartbeats 400000 in
theorem bad2_calls (n m : Int) (b : Nat) (w : World) (hc : w.cell? ⟨b, 0, none⟩ = some (.int .i64 m)) :
    Calls Try.prog 47 #[.int .i64 n, .pointer (some ⟨b, 0, none⟩)] w fun e w' => e = .returned (.bool (beyond m n)) ∧ Drawn0 w w' := by
  by_cases h : n < 0
  · have hb : beyond m n = true := by unfold beyond; rw [if_pos h]
    rw [hb]
    have h1 : decide (n < 0) = true := decide_eq_true h
    clear hb h
    go_enter Try.func47, Try.ntmps47
    go_wp2
    repeat (go_quiet (fail); try go_wp2)
    go_ret
    exact ⟨by first | rfl | (simp; done) | (simp [*]; done), by repeat (first | exact Drawn0.refl _ | apply Drawn0.step)⟩
  · have hb : beyond m n = decide (n > m) := by unfold beyond; rw [if_neg h]
    rw [hb]
    have h1 : decide (n < 0) = false := decide_eq_false h
    clear hb h
    go_enter Try.func47, Try.ntmps47
    go_wp2
    repeat (go_quiet (fail); try go_wp2)
    go_ret
    exact ⟨by first | rfl | (simp; done) | (simp [*]; done), by repeat (first | exact Drawn0.refl _ | apply Drawn0.step)⟩

set_option maxHeartbeats 400000 in
theorem bad1_calls (m : Int) (w : World) :
    Calls Try.prog 46 #[.int .i64 m] w fun e w' => ∃ b, e = .returned (.func (.func 47) #[] #[.pointer (some ⟨b, 0, none⟩)]) ∧ w'.cell? ⟨b, 0, none⟩ = some (.int .i64 m) ∧ b < w'.heap.size ∧ Below w.heap.size w w' := by
  go_enter Try.func46, Try.ntmps46
  go_wp2
  go_ret
  exact ⟨w.heap.size, rfl, by simp, by simp, (Below.refl _ _).alloc (Nat.le_refl _) _⟩

def anyB (m : Int) (l : List Int) : Bool := l.any (beyond m)

def IdxPost (m : Int) (l : List Int) (w : World) (e : Ending) (w' : World) : Prop := ∃ r : Int, e = .returned (.int .i64 r) ∧ decide (r ≥ 0) = anyB m l ∧ Drawn0 w w'

theorem any_hit (m : Int) (l : List Int) (k : Nat) (hk : k < l.length) (h : beyond m (rd l k) = true) : anyB m l = true := by
  unfold anyB
  rw [List.any_eq_true]
  refine ⟨rd l k, ?_, h⟩
  unfold rd
  simp [List.getD_eq_getElem?_getD, hk]

theorem any_miss (m : Int) (l : List Int) (h : ∀ j : Nat, j < l.length → beyond m (rd l j) = false) : anyB m l = false := by
  unfold anyB
  rw [List.any_eq_false]
  intro x hx
  obtain ⟨i, hi, rfl⟩ := List.mem_iff_getElem.mp hx
  have := h i hi
  unfold rd at this
  simp [List.getD_eq_getElem?_getD, hi] at this
  simp [this]

set_option maxHeartbeats 1000000 in
theorem index_calls (m : Int) (b : Nat) (A0 : Option Addr) (c0 : Nat) (l0 : List Int) (w : World) (hr0 : Kd.C (Kd.int .i64) w A0 l0.length l0) (hc0 : l0.length ≤ c0) (hbig : l0.length ≤ 140737488351232)
    (hcb : w.cell? ⟨b, 0, none⟩ = some (.int .i64 m)) :
    Calls Try.prog 51 #[.slice A0 l0.length c0, .func (.func 47) #[] #[.pointer (some ⟨b, 0, none⟩)]] w (IdxPost m l0 w) := by
  have HR0 := Aside0.mk hr0
  have HC0 := Aside0.mk hc0
  clear hr0 hc0
  have HCB := Aside0.mk hcb
  clear hcb
  go_enter Try.func51, Try.ntmps51
  go_wp2
  go_loopg [5, 8] (l0.length) (fun gg _ s8 wr => ∃ kk : Nat, kk ≤ l0.length ∧ l0.length - kk ≤ gg ∧ s8 = .int .i64 kk ∧ Aside0 (∀ j : Nat, j < kk → beyond m (rd l0 j) = false) ∧ Drawn0 w wr)
  case atStart => exact ⟨0, Nat.zero_le _, by omega, rfl, ⟨fun j hj => absurd hj (Nat.not_lt_zero _)⟩, by repeat (first | exact Drawn0.refl _ | apply Drawn0.step)⟩
  case round =>
    obtain ⟨kk, hkk, hg, rfl, AA, ⟨m1, rfl⟩⟩ := hrel
    by_cases hlt : kk < l0.length
    · have hltz : (kk : Int) < (l0.length : Int) := by omega
      have p0 : 0 ≤ (kk : Int) := by omega
      obtain ⟨ad, e1, hx⟩ := Kd.at_int HR0.out (kk : Int) p0 hltz
      rw [Int.toNat_natCast] at hx
      cases e1
      have hcell : (w.drewN m1).cell? ⟨b, 0, none⟩ = some (.int .i64 m) := HCB.out
      cases hq : beyond m (rd l0 kk) with
      | true =>
        have hcall := bad2_calls (rd l0 kk) m b (w.drewN m1) hcell
        rw [hq] at hcall
        have hq' := Aside0.mk hq
        clear hq hcell
        go_wp2_with (go_at_call 47; refine hcall.mono ?_; rintro e w' ⟨rfl, ⟨nd, rfl⟩⟩)
        go_ret
        exact ⟨_, rfl, by rw [any_hit m l0 kk hlt hq'.out]; simp, by repeat (first | exact Drawn0.refl _ | apply Drawn0.step)⟩
      | false =>
        have hcall := bad2_calls (rd l0 kk) m b (w.drewN m1) hcell
        rw [hq] at hcall
        have hq' := Aside0.mk hq
        clear hq hcell
        go_wp2_with (go_at_call 47; refine hcall.mono ?_; rintro e w' ⟨rfl, ⟨nd, rfl⟩⟩)
        go_roundg (l0.length - (kk + 1))
        case measure => omega
        case rel =>
          refine ⟨kk + 1, by omega, by omega, by go_num, ⟨fun j hj => ?_⟩, by repeat (first | exact Drawn0.refl _ | apply Drawn0.step)⟩
          by_cases e : j = kk
          · subst e; exact hq'.out
          · exact AA.out j (by omega)
    · have hltz : ¬ (kk : Int) < (l0.length : Int) := by omega
      have hz : l0.length ≤ kk := by omega
      go_wp2
      go_ret
      exact ⟨-1, rfl, by rw [any_miss m l0 (fun j hj => AA.out j (by omega))]; rfl, by repeat (first | exact Drawn0.refl _ | apply Drawn0.step)⟩

theorem below_drn {B : Nat} {a w : World} (h : Below B a w) (n : Nat) : Below B a (w.drewN n) := h.trans ⟨rfl, rfl, rfl, Nat.le_refl _, fun _ _ => rfl⟩

set_option maxHeartbeats 400000 in
theorem contains_calls (m : Int) (b : Nat) (A0 : Option Addr) (c0 : Nat) (l0 : List Int) (w : World) (hr0 : Kd.C (Kd.int .i64) w A0 l0.length l0) (hc0 : l0.length ≤ c0) (hbig : l0.length ≤ 140737488351232)
    (hcb : w.cell? ⟨b, 0, none⟩ = some (.int .i64 m)) :
    Calls Try.prog 48 #[.slice A0 l0.length c0, .func (.func 47) #[] #[.pointer (some ⟨b, 0, none⟩)]] w fun e w' => e = .returned (.bool (anyB m l0)) ∧ Drawn0 w w' := by
  go_enter Try.func48, Try.ntmps48
  go_wp2_with (go_at_call 51; refine (index_calls m b A0 c0 l0 _ hr0 hc0 hbig hcb).mono ?_; rintro e w' ⟨r, rfl, hr, ⟨nd, rfl⟩⟩; have Hr := Aside0.mk hr; clear hr)
  go_ret
  exact ⟨by rw [← Hr.out]; rfl, by repeat (first | exact Drawn0.refl _ | apply Drawn0.step)⟩

def rotation_ranges.f (l0 : List Int) (l1 : List Int) (a2 : Int) : Option Int :=
  if l0.length ≤ 140737488351232 then (if l1.length ≤ 140737488351232 then
    (if anyB 1000 l0 = true then some 5 else if anyB 10000 l1 = true then some 5 else if beyond 100000 a2 = true then some 5 else some 0)
  else none) else none

set_option maxHeartbeats 1000000 in
theorem rotation_ranges.calls (A0 : Option Addr) (c0 : Nat) (l0 : List Int) (A1 : Option Addr) (c1 : Nat) (l1 : List Int) (a2 : Int) (r : Int) (w : World) (hr0 : Kd.C (Kd.int .i64) w A0 l0.length l0) (hc0 : l0.length ≤ c0) (hr1 : Kd.C (Kd.int .i64) w A1 l1.length l1) (hc1 : l1.length ≤ c1) (h : rotation_ranges.f l0 l1 a2 = some r) :
    Calls Try.prog 39 #[.slice A0 l0.length c0, .slice A1 l1.length c1, .int .i64 a2] w fun e w' => e = .returned (.int .i64 r) ∧ Below w.heap.size w w' := by
  unfold rotation_ranges.f at h
  by_cases b0 : l0.length ≤ 140737488351232
  · rw [if_pos b0] at h
    by_cases b1 : l1.length ≤ 140737488351232
    · rw [if_pos b1] at h
      have HR0 := Aside0.mk hr0
      have HR1 := Aside0.mk hr1
      clear hr0 hr1
      cases h1 : anyB 1000 l0 with
      | true =>
        rw [if_pos h1] at h
        obtain rfl := Option.some.inj h
        have h1' := Aside0.mk h1
        clear h1 h
        go_enter Try.func39, Try.ntmps39
        go_wp2_with (go_at_call 46; refine (bad1_calls _ _).mono ?_; rintro e w1 ⟨b, rfl, hcc, hlt1, hb1⟩)
        have hk := Kd.C_below HR0.out hb1
        have hcon := contains_calls 1000 b A0 c0 l0 w1 hk hc0 b0 hcc
        rw [h1'.out] at hcon
        clear hk
        have HB1 := Aside0.mk hb1
        clear hb1
        go_wp2_with (go_at_call 48; refine hcon.mono ?_; rintro e w2 ⟨rfl, ⟨nd, rfl⟩⟩)
        go_ret
        exact ⟨rfl, below_drn HB1.out nd⟩
      | false =>
        rw [if_neg (by rw [h1]; decide)] at h
        have h1' := Aside0.mk h1
        clear h1
        cases h2 : anyB 10000 l1 with
        | true =>
          rw [if_pos h2] at h
          obtain rfl := Option.some.inj h
          have h2' := Aside0.mk h2
          clear h2 h
          go_enter Try.func39, Try.ntmps39
          go_wp2_with (go_at_call 46; refine (bad1_calls _ _).mono ?_; rintro e w1 ⟨b, rfl, hcc, hlt1, hb1⟩)
          have hk := Kd.C_below HR0.out hb1
          have hcon := contains_calls 1000 b A0 c0 l0 w1 hk hc0 b0 hcc
          rw [h1'.out] at hcon
          clear hk
          have HB1 := Aside0.mk hb1
          clear hb1
          go_wp2_with (go_at_call 48; refine hcon.mono ?_; rintro e w2 ⟨rfl, ⟨nd, rfl⟩⟩)
          clear hcon hcc hlt1
          go_wp2_with (go_at_call 46; refine (bad1_calls _ _).mono ?_; rintro e w3 ⟨b', rfl, hcc, hlt1, hb2⟩)
          have HB2 := Aside0.mk ((below_drn HB1.out nd).trans (hb2.mono (by have := HB1.out.size; simpa using this)))
          clear hb2
          have hk := Kd.C_below HR1.out HB2.out
          have hcon := contains_calls 10000 b' A1 c1 l1 w3 hk hc1 b1 hcc
          rw [h2'.out] at hcon
          clear hk
          go_wp2_with (go_at_call 48; refine hcon.mono ?_; rintro e w4 ⟨rfl, ⟨nd2, rfl⟩⟩)
          go_ret
          exact ⟨rfl, below_drn HB2.out nd2⟩
        | false =>
          rw [if_neg (by rw [h2]; decide)] at h
          have h2' := Aside0.mk h2
          clear h2
          cases h3 : beyond 100000 a2 with
          | true =>
            rw [if_pos h3] at h
            obtain rfl := Option.some.inj h
            have h3' := Aside0.mk h3
            clear h3 h
            go_enter Try.func39, Try.ntmps39
            go_wp2_with (go_at_call 46; refine (bad1_calls _ _).mono ?_; rintro e w1 ⟨b, rfl, hcc, hlt1, hb1⟩)
            have hk := Kd.C_below HR0.out hb1
            have hcon := contains_calls 1000 b A0 c0 l0 w1 hk hc0 b0 hcc
            rw [h1'.out] at hcon
            clear hk
            have HB1 := Aside0.mk hb1
            clear hb1
            go_wp2_with (go_at_call 48; refine hcon.mono ?_; rintro e w2 ⟨rfl, ⟨nd, rfl⟩⟩)
            clear hcon hcc hlt1
            go_wp2_with (go_at_call 46; refine (bad1_calls _ _).mono ?_; rintro e w3 ⟨b', rfl, hcc, hlt1, hb2⟩)
            have HB2 := Aside0.mk ((below_drn HB1.out nd).trans (hb2.mono (by have := HB1.out.size; simpa using this)))
            clear hb2
            have hk := Kd.C_below HR1.out HB2.out
            have hcon := contains_calls 10000 b' A1 c1 l1 w3 hk hc1 b1 hcc
            rw [h2'.out] at hcon
            clear hk
            go_wp2_with (go_at_call 48; refine hcon.mono ?_; rintro e w4 ⟨rfl, ⟨nd2, rfl⟩⟩)
            clear hcon hcc hlt1
            go_wp2_with (go_at_call 46; refine (bad1_calls _ _).mono ?_; rintro e w5 ⟨b'', rfl, hcc, hlt1, hb3⟩)
            have HB3 := Aside0.mk ((below_drn HB2.out nd2).trans (hb3.mono (by have := HB2.out.size; simpa using this)))
            clear hb3
            have hcon := bad2_calls a2 100000 b'' w5 hcc
            rw [h3'.out] at hcon
            go_wp2_with (go_at_call 47; refine hcon.mono ?_; rintro e w6 ⟨rfl, ⟨nd3, rfl⟩⟩)
            go_ret
            exact ⟨rfl, below_drn HB3.out nd3⟩
          | false =>
            rw [if_neg (by rw [h3]; decide)] at h
            obtain rfl := Option.some.inj h
            have h3' := Aside0.mk h3
            clear h3 h
            go_enter Try.func39, Try.ntmps39
            go_wp2_with (go_at_call 46; refine (bad1_calls _ _).mono ?_; rintro e w1 ⟨b, rfl, hcc, hlt1, hb1⟩)
            have hk := Kd.C_below HR0.out hb1
            have hcon := contains_calls 1000 b A0 c0 l0 w1 hk hc0 b0 hcc
            rw [h1'.out] at hcon
            clear hk
            have HB1 := Aside0.mk hb1
            clear hb1
            go_wp2_with (go_at_call 48; refine hcon.mono ?_; rintro e w2 ⟨rfl, ⟨nd, rfl⟩⟩)
            clear hcon hcc hlt1
            go_wp2_with (go_at_call 46; refine (bad1_calls _ _).mono ?_; rintro e w3 ⟨b', rfl, hcc, hlt1, hb2⟩)
            have HB2 := Aside0.mk ((below_drn HB1.out nd).trans (hb2.mono (by have := HB1.out.size; simpa using this)))
            clear hb2
            have hk := Kd.C_below HR1.out HB2.out
            have hcon := contains_calls 10000 b' A1 c1 l1 w3 hk hc1 b1 hcc
            rw [h2'.out] at hcon
            clear hk
            go_wp2_with (go_at_call 48; refine hcon.mono ?_; rintro e w4 ⟨rfl, ⟨nd2, rfl⟩⟩)
            clear hcon hcc hlt1
            go_wp2_with (go_at_call 46; refine (bad1_calls _ _).mono ?_; rintro e w5 ⟨b'', rfl, hcc, hlt1, hb3⟩)
            have HB3 := Aside0.mk ((below_drn HB2.out nd2).trans (hb3.mono (by have := HB2.out.size; simpa using this)))
            clear hb3
            have hcon := bad2_calls a2 100000 b'' w5 hcc
            rw [h3'.out] at hcon
            go_wp2_with (go_at_call 47; refine hcon.mono ?_; rintro e w6 ⟨rfl, ⟨nd3, rfl⟩⟩)
            go_ret
            exact ⟨rfl, below_drn HB3.out nd3⟩
    · rw [if_neg b1] at h; exact absurd h (by simp)
  · rw [if_neg b0] at h; exact absurd h (by simp)

end Go.Proofs.Ytaodpgblleiiaaa.P
