-- out of a program (drive.sh), by way of the translation's print
import Derived.Test.YtjmbkbnbepmhjaaPx0
namespace Go.Proofs.Ytjmbkbnbepmhjaa.P
open Go.RowKit Go.Proofs.YtjmbkbnbepmhjaaW.PrintWords Go.Proofs.YtjmbkbnbepmhjaaW.PrintLast Go.Proofs.YtjmbkbnbepmhjaaW.PrintMore
attribute [local go_sem] max2_int min2_int max_two min_two max_three min_three max_four min_four   -- for this text's walks alone
set_option linter.unusedVariables false
set_option linter.unusedSimpArgs false

/-! ### salchowlaw25_theirs: function 18 -/
def salchowlaw25_theirs.l0 : Nat → List (S63) → List (S58) → Int → Option ((List (S58)))
 | 0, _, _, _ => none
 | k + 1, x0, x3, x4 => if x4 < (x0.length : Int) then (if 0 ≤ x4 then (if x3.length < 3518437208883 then (salchowlaw25_theirs.l0 k x0 (x3 ++ [(⟨(rd_T63 x0 x4).f0, (⟨(rd_T63 x0 x4).f1.f0, (rd_T63 x0 x4).f1.f1, (rd_T63 x0 x4).f1.f2, (rd_T63 x0 x4).f1.f3, (rd_T63 x0 x4).f1.f4⟩ : S50)⟩ : S58)]) (wrap64 (x4 + 1))) else (none)) else (none)) else (some x3)
def salchowlaw25_theirs.f (k : Nat) (l0 : List (S63)) : Option ((List (S58))) := salchowlaw25_theirs.l0 k l0 (([] : List (S58))) 0
theorem salchowlaw25_theirs.mono_l : ∀ k, (∀ y0 y1 y2, LeO (salchowlaw25_theirs.l0 k y0 y1 y2) (salchowlaw25_theirs.l0 (k + 1) y0 y1 y2))
 | 0 => fun _ _ _ r h => by simp [salchowlaw25_theirs.l0] at h
 | k + 1 => by
  have ih0 := salchowlaw25_theirs.mono_l k
  ·intro y0 y1 y2
   unfold salchowlaw25_theirs.l0
   repeat' first
   | (with_reducible exact ih0 _ _ _)
   | (with_reducible exact LeO.refl _)
   | (with_reducible exact LeO.none _)
   | (with_reducible refine LeO.ite ?_ ?_)
   | (with_reducible refine LeO.bind ?_ (fun _ => ?_))
   | exact ih0 _ _ _
   | exact LeO.none _
   | refine LeO.ite ?_ ?_
   | refine LeO.bind ?_ (fun _ => ?_)
theorem salchowlaw25_theirs.mono : ∀ a0 k, LeO (salchowlaw25_theirs.f k a0) (salchowlaw25_theirs.f (k + 1) a0) := by
 intro a0 k
 have ih0 := salchowlaw25_theirs.mono_l k
 unfold salchowlaw25_theirs.f
 repeat' first
   | (with_reducible exact ih0 _ _ _)
   | (with_reducible exact LeO.refl _)
   | (with_reducible exact LeO.none _)
   | (with_reducible refine LeO.ite ?_ ?_)
   | (with_reducible refine LeO.bind ?_ (fun _ => ?_))
   | exact ih0 _ _ _
   | exact LeO.none _
   | refine LeO.ite ?_ ?_
   | refine LeO.bind ?_ (fun _ => ?_)
set_option maxHeartbeats 8000000 in
set_option maxRecDepth 100000 in
theorem salchowlaw25_theirs.calls (k : Nat) (A0 : Option Addr) (c0 : Nat) (l0 : List (S63)) (r : List (S58)) (w : World) (hr0 : Kd.C k63 w A0 l0.length l0) (hc0 : l0.length ≤ c0) (h : salchowlaw25_theirs.f k l0 = some r) :
  Calls Try.prog 18 #[.slice A0 l0.length c0] w fun e w' => ∃ v0_ : Value, e = .returned (v0_) ∧ Kd.R k58 58 w' w.heap.size (fun _ => True) v0_ r ∧ Below w.heap.size w w' := by
 have hu63 := Try.underlying63
 have HR0 := aS hr0
 have HC0 := aS hc0
 clear hr0 hc0
 have HB := aS (Below.refl w.heap.size w)
 have H : (salchowlaw25_theirs.l0 k l0 (([] : List (S58))) 0) = some r := h
 clear h
 obtain ⟨y144, hy144⟩ : ∃ y_ : List (S58), y_ = (([] : List (S58))) := ⟨_, rfl⟩
 replace H : (salchowlaw25_theirs.l0 k l0 y144 0) = some r := by first | (rw [hy144]; with_reducible exact H) | (have H2_ := (Option.bind_some _ _).symm.trans H; rw [hy144]; with_reducible exact H2_) | (have H2_ := (Option.bind_some _ _).symm.trans H; with_reducible exact H2_) | with_reducible exact H | (rw [hy144]; exact H) | exact H
 have Ny144 := aS hy144
 clear hy144
 have H' := aS H
 clear H
 go_enter Try.func18, Try.ntmps18
 go_wp2_with (first | ((with_reducible refine gate_dst (N := 5) rfl ?_); refine Kd.R_lit k58 _ 58 ?hg (N := 5) ?hd (xs := ([] : List (S58))) (inner := []) (ok := fun _ => True) (okp := fun _ => True) ?hr ?hp (fun _ hk => hk) trivial (Below.refl _ _) (Nat.le_refl _) (by simp) ?_; (case hd => rfl); (case hg => rfl); (case hr => first | (go_simp; done) | (go_simp; rfl)); (case hp => exact (Reps.none _ _)); intro v145 w2 ho3 hb hg_ hnew_; clear hg_ hnew_; (first | rw [← Ny144.out] at ho3 | (simp only [Int.reduceToNat] at ho3; rw [← Ny144.out] at ho3)); have n0_ := aS (Kd.R_lower ho3 (below_size (by first | exact bel HB.out | exact HB.out))); have n1_ := aS (below_step (by first | exact bel HB.out | exact HB.out) hb); clear HB; have HO146 := n0_; have HB := n1_; clear n0_ n1_; clear hb ho3))
 go_loopg [3, 4] k (fun kq v3 v4 w' => ∃ (x3_1 : List (S58)) (x4_1 : Int), v4 = .int .i64 x4_1 ∧ Aside0 (salchowlaw25_theirs.l0 kq l0 x3_1 x4_1 = some r) ∧ Aside0 (kq ≤ k) ∧ Aside0 (Kd.R k58 58 w' w.heap.size (fun _ => True) v3 x3_1) ∧ Aside0 (Below w.heap.size w w'))
 case atStart => exact ⟨(y144), (0), (by first | rfl | (simp; done) | (simp [*]; done)), H', ⟨Nat.le_refl _⟩, ⟨by exact rel <| HO146.out⟩, ⟨by first | exact bel HB.out | exact HB.out⟩⟩
 case round =>
  clear H'
  try clear c1
  try clear p2
  obtain ⟨x3_1, x4_1, rfl, HA, HK1, HO_3, HB⟩ := hrel
  cases gk with
  | zero => exact absurd HA.out (by simp [salchowlaw25_theirs.l0])
  | succ k1 =>
   have H := HA.out
   clear HA
   simp only [salchowlaw25_theirs.l0] at H
   by_cases c4 : x4_1 < (l0.length : Int)
   rotate_left
   ·rw [if_neg c4] at H
    have c4b0 : decide (x4_1 < (l0.length : Int)) = false := decide_eq_false c4
    clear c4
    obtain rfl := Option.some.inj H
    go_wp2
    go_ret
    exact ⟨_, by first | rfl | (simp [errW_none, errW_some] <;> rfl) | (simp [*, errW_none, errW_some] <;> rfl), by exact rel <| HO_3.out, by first | exact bel HB.out | exact HB.out⟩

   rw [if_pos c4] at H
   have c4b0 : decide (x4_1 < (l0.length : Int)) = true := decide_eq_true c4
   clear c4
   by_cases c5 : 0 ≤ x4_1
   rotate_left
   ·rw [if_neg c5] at H
    exact absurd H (by simp)
   rw [if_pos c5] at H
   have c5b0 : decide (0 ≤ x4_1) = true := decide_eq_true c5
   clear c5
   by_cases c6 : x3_1.length < 3518437208883
   rotate_left
   ·rw [if_neg c6] at H
    exact absurd H (by simp)
   rw [if_pos c6] at H
   have LMc6 := aS c6
   clear c6
   obtain ⟨y148, hy148⟩ : ∃ y_ : List (S58), y_ = (x3_1 ++ [(⟨(rd_T63 l0 x4_1).f0, (⟨(rd_T63 l0 x4_1).f1.f0, (rd_T63 l0 x4_1).f1.f1, (rd_T63 l0 x4_1).f1.f2, (rd_T63 l0 x4_1).f1.f3, (rd_T63 l0 x4_1).f1.f4⟩ : S50)⟩ : S58)]) := ⟨_, rfl⟩
   replace H : (salchowlaw25_theirs.l0 k1 l0 y148 (wrap64 (x4_1 + 1))) = some r := by first | (rw [hy148]; with_reducible exact H) | (have H2_ := (Option.bind_some _ _).symm.trans H; rw [hy148]; with_reducible exact H2_) | (have H2_ := (Option.bind_some _ _).symm.trans H; with_reducible exact H2_) | with_reducible exact H | (rw [hy148]; exact H) | exact H
   have Ny148 := aS hy148
   clear hy148
   have H' := aS H
   clear H
   have p147 : 0 ≤ (x4_1 : Int) := of_decide_eq_true (by first | (with_reducible assumption) | assumption)
   have q147 : x4_1 < (l0.length : Int) := of_decide_eq_true (by first | (with_reducible assumption) | assumption)
   obtain ⟨ad147, e147, hx147_0, hx147_1, hx147_2, hx147_3, hx147_4, hx147_5⟩ := at_T63 HR0.out x4_1 p147 q147
   cases e147
   replace hx147_0 := hup HB.out hx147_0
   replace hx147_1 := hup HB.out hx147_1
   replace hx147_2 := hup HB.out hx147_2
   replace hx147_3 := hup HB.out hx147_3
   replace hx147_4 := hup HB.out hx147_4
   replace hx147_5 := hup HB.out hx147_5
   replace p147 := eq_true p147
   replace q147 := eq_true q147
   go_wp2_with (first | ((with_reducible refine gate_builtin (b := .append) (xs := #[.tmp 12, .tmp 17]) rfl ?_); at_builtin; refine Kd.R_append k58 (w0 := w) w.heap.size rfl (.tmp 12) (.tmp 17) 31 58 (.agg #[(.int .i64 0), (.string ⟨#[]⟩), (.int .i64 0), (.bool false), (.bool false), (.bool false)]) 40 rfl Try.underlying31 info58 rfl (by decide) (by omega) u3 x3_1 (⟨(rd_T63 l0 x4_1).f0, (⟨(rd_T63 l0 x4_1).f1.f0, (rd_T63 l0 x4_1).f1.f1, (rd_T63 l0 x4_1).f1.f2, (rd_T63 l0 x4_1).f1.f3, (rd_T63 l0 x4_1).f1.f4⟩ : S50)⟩ : S58) [.int .i64 ((rd_T63 l0 x4_1).f0), .string ((rd_T63 l0 x4_1).f1.f0), .int .i64 ((rd_T63 l0 x4_1).f1.f1), .bool ((rd_T63 l0 x4_1).f1.f2), .bool ((rd_T63 l0 x4_1).f1.f3), .bool ((rd_T63 l0 x4_1).f1.f4)] (fun _ => True) (fun _ => False) rfl rfl ?aP (fun _ hk => hk.elim) ?aF ?aO ?aB ?aS ?aL ?_; (case aP => exact k58_mkM _ _ _ (⟨(rd_T63 l0 x4_1).f0, (⟨(rd_T63 l0 x4_1).f1.f0, (rd_T63 l0 x4_1).f1.f1, (rd_T63 l0 x4_1).f1.f2, (rd_T63 l0 x4_1).f1.f3, (rd_T63 l0 x4_1).f1.f4⟩ : S50)⟩ : S58)); (case aB => exact (by first | exact bel HB.out | exact HB.out)); (case aF => exact (fun _ _ => trivial)); (case aO => exact (by exact rel <| HO_3.out)); (case aS => exact (below_size (by first | exact bel HB.out | exact HB.out))); (case aL => have := LMc6.out; omega); intro v149 w7 ho hb hg hat; rw [← Ny148.out] at ho; have n0_ := aS (hb); have n1_ := aS (ho); clear HB; clear HO_3; have HB := n0_; have HO150 := n1_; clear n0_ n1_; clear ho hb hg hat))
   go_roundg k1
   case measure => have := HK1.out; omega
   case rel => exact ⟨(y148), (wrap64 (x4_1 + 1)), (by first | rfl | (simp; done) | (simp [*]; done)), H', ⟨by have := HK1.out; omega⟩, ⟨by exact rel <| HO150.out⟩, ⟨by first | exact bel HB.out | exact HB.out⟩⟩
end Go.Proofs.Ytjmbkbnbepmhjaa.P
