-- out of a program (drive.sh), by way of the translation's print
import Derived.Test.YtjmbkbnbepmhjaaPx0
import Derived.Test.YtjmbkbnbepmhjaaPx4
import Derived.Test.YtjmbkbnbepmhjaaPx5
import Derived.Test.YtjmbkbnbepmhjaaPx6
namespace Go.Proofs.Ytjmbkbnbepmhjaa.P
open Go.RowKit Go.Proofs.YtjmbkbnbepmhjaaW.PrintWords Go.Proofs.YtjmbkbnbepmhjaaW.PrintLast Go.Proofs.YtjmbkbnbepmhjaaW.PrintMore
attribute [local go_sem] max2_int min2_int max_two min_two max_three min_three max_four min_four   -- for this text's walks alone
set_option linter.unusedVariables false
set_option linter.unusedSimpArgs false

/-- What the rest of a scope, come to by a jump, arrives at. -/
def Land (P : Program) (c rest : Code) (Q : Exit → Act → World → Prop) (a : Act) (w : World) : Prop :=
 ∀ (b : Frame) (k : List Item) (cs : List Frame), ∃ e a' w', Q e a' w' ∧ Arrives P (lone (b.at a (.code rest :: .inScope c :: k)) cs w) b k cs e a' w'
theorem wp_scope_open {P : Program} {Q : Exit → Act → World → Prop} {a : Act} {w : World} {c rest : Code} (l : Nat) (hf : findLabel c l = some rest) (first : c.wp P (Exit.jump l (Land P c rest Q) Q) a w) : (Code.scope c).wp P Q a w := by
 intro b k cs
 have hg : gotoIn l (.inScope c :: k) = some (.code rest :: .inScope c :: k) := by simp [gotoIn, hf]
 obtain ⟨e, a₁, w₁, hq, harr⟩ := first b (.inScope c :: k) cs
 cases e with
 | normal => exact ⟨.normal, a₁, w₁, hq, .head step_scope (Steps.trans harr (.one step_inScope))⟩
 | exit id => exact ⟨.exit id, a₁, w₁, hq, fun k' hk => .head step_scope (harr k' (by simp [exitTo, hk]))⟩
 | goto l' =>
  obtain ⟨rfl, hJ'⟩ := hq
  obtain ⟨e₂, a₂, w₂, hq₂, harr₂⟩ := hJ' b k cs
  exact ⟨e₂, a₂, w₂, hq₂, .of_steps (.head step_scope (harr _ hg)) harr₂⟩
 | ret => exact ⟨_, a₁, w₁, hq, .of_steps (.one step_scope) harr⟩
 | panic ch => exact ⟨_, a₁, w₁, hq, .of_steps (.one step_scope) harr⟩
 | outgrown => exact ⟨_, a₁, w₁, hq, .of_steps (.one step_scope) harr⟩
theorem land_of {P : Program} {Q : Exit → Act → World → Prop} {c rest : Code} (l : Nat) (hf : findLabel c l = some rest) (I : Nat → Act → World → Prop)
  (round : ∀ n a w, I n a w → rest.wp P (Exit.jump l (Handed I n) Q) a w) : ∀ n a w, I n a w → Land P c rest Q a w := by
 intro n
 induction n using Nat.strongRecOn with
 | _ n ih =>
  intro a w hI b k cs
  have hg : gotoIn l (.inScope c :: k) = some (.code rest :: .inScope c :: k) := by simp [gotoIn, hf]
  obtain ⟨e, a₁, w₁, hq, harr⟩ := round n a w hI b (.inScope c :: k) cs
  cases e with
  | normal => exact ⟨.normal, a₁, w₁, hq, Steps.trans harr (.one step_inScope)⟩
  | exit id => exact ⟨.exit id, a₁, w₁, hq, fun k' hk => harr k' (by simp [exitTo, hk])⟩
  | goto l' =>
   obtain ⟨rfl, n', hlt, hJ'⟩ := hq
   obtain ⟨e₂, a₂, w₂, hq₂, harr₂⟩ := ih n' hlt a₁ w₁ hJ' b k cs
   exact ⟨e₂, a₂, w₂, hq₂, .of_steps (harr _ hg) harr₂⟩
  | ret => exact ⟨_, a₁, w₁, hq, harr⟩
  | panic ch => exact ⟨_, a₁, w₁, hq, harr⟩
  | outgrown => exact ⟨_, a₁, w₁, hq, harr⟩
/-- The rest behind a label, with an invariant that bears a number, which every jump lowers. -/
theorem wp_rest_ghost {P : Program} {Q : Exit → Act → World → Prop} {a : Act} {w : World} {c rest : Code} (l : Nat) (hf : findLabel c l = some (Code.seq Code.skip rest)) (I : Nat → Act → World → Prop) (n₀ : Nat) (h₀ : I n₀ a w)
  (round : ∀ n a w, I n a w → ∀ (J : Nat → Act → World → Prop) (K : Act → World → Prop), (∀ k a' w', I k a' w' → J k a' w') → (∀ a' w', Handed J n a' w' → K a' w') → rest.wp P (Exit.jump l K Q) a w) : rest.wp P (Exit.jump l (Land P c (Code.seq Code.skip rest) Q) Q) a w := by
 have r2 : ∀ n a w, I n a w → rest.wp P (Exit.jump l (Handed I n) Q) a w := fun n a w h => round n a w h I _ (fun _ _ _ q => q) fun _ _ q => q
 have r3 : ∀ n a w, I n a w → (Code.seq Code.skip rest).wp P (Exit.jump l (Handed I n) Q) a w := fun n a w h => wp_seq (wp_skip (r2 n a w h))
 refine wp_mono (r2 n₀ a w h₀) ?_
 intro e a' w' hq
 cases e with
 | goto l' =>
  obtain ⟨rfl, n', hlt, hJ'⟩ := hq
  exact ⟨rfl, land_of l' hf I r3 n' a' w' hJ'⟩
 | normal => exact hq
 | exit id => exact hq
 | ret => exact hq
 | panic ch => exact hq
 | outgrown => exact hq
@[local go_sem] theorem jump_ret (l : Nat) (J : Act → World → Prop) (Q : Exit → Act → World → Prop) (a : Act) (w : World) : Exit.jump l J Q .ret a w = Q .ret a w := rfl
@[local go_sem] theorem jump_normal (l : Nat) (J : Act → World → Prop) (Q : Exit → Act → World → Prop) (a : Act) (w : World) : Exit.jump l J Q .normal a w = Q .normal a w := rfl
@[local go_sem] theorem jump_exit (l : Nat) (J : Act → World → Prop) (Q : Exit → Act → World → Prop) (id : Nat) (a : Act) (w : World) : Exit.jump l J Q (.exit id) a w = Q (.exit id) a w := rfl
@[local go_sem] theorem jump_panic (l : Nat) (J : Act → World → Prop) (Q : Exit → Act → World → Prop) (ch : List PanicEntry) (a : Act) (w : World) : Exit.jump l J Q (.panic ch) a w = Q (.panic ch) a w := rfl
/-! ### compare_Script: function 15 -/
mutual
def compare_Script.j0 : Nat → List (S50) → List (S50) → Bool → Option ((List (S63)) × Int)
 | 0, _, _, _ => none
 | k + 1, x0, x1, x19 => if x19 = true then (some (([] : List (S63)), 6)) else ((compare_table.f x0 x1).bind fun t111 => (compare_Script.l0 k x0 x1 t111 ([] : List (S63)) 0 0))
def compare_Script.l0 : Nat → List (S50) → List (S50) → List (List Int) → List (S63) → Int → Int → Option ((List (S63)) × Int)
 | 0, _, _, _, _, _, _ => none
 | k + 1, x0, x1, x6, x7, x8, x9 => if x8 < (x0.length : Int) then (compare_Script.j2 k x0 x1 x6 x7 x8 x9 (decide (x9 < (x1.length : Int)))) else (compare_Script.j2 k x0 x1 x6 x7 x8 x9 false)
def compare_Script.j2 : Nat → List (S50) → List (S50) → List (List Int) → List (S63) → Int → Int → Bool → Option ((List (S63)) × Int)
 | 0, _, _, _, _, _, _, _ => none
 | k + 1, x0, x1, x6, x7, x8, x9, x32 => if x32 = true then (if 0 ≤ x8 then (if x8 < (x0.length : Int) then (if 0 ≤ x9 then (if x9 < (x1.length : Int) then ((compare_taking.f ((rd_T50 x0 x8).f0) ((rd_T50 x0 x8).f1) ((rd_T50 x0 x8).f2) ((rd_T50 x0 x8).f3) ((rd_T50 x0 x8).f4) ((rd_T50 x1 x9).f0) ((rd_T50 x1 x9).f1) ((rd_T50 x1 x9).f2) ((rd_T50 x1 x9).f3) ((rd_T50 x1 x9).f4)).bind fun t116 => (if x8 < (x6.length : Int) then (if x9 < ((rd_L6 x6 x8).length : Int) then ((compare_Cost.f k t116).bind fun t119 => (if 0 ≤ (wrap64 (x8 + 1)) then (if (wrap64 (x8 + 1)) < (x6.length : Int) then (if 0 ≤ (wrap64 (x9 + 1)) then (if (wrap64 (x9 + 1)) < ((rd_L6 x6 (wrap64 (x8 + 1))).length : Int) then (if (rd (rd_L6 x6 x8) x9) = (wrap64 (t119 + (rd (rd_L6 x6 (wrap64 (x8 + 1))) (wrap64 (x9 + 1))))) then (if t116 = 1 then (if x7.length < 3518437208883 then (compare_Script.l0 k x0 x1 x6 (x7 ++ [(⟨t116, (⟨(⟨#[]⟩ : ByteArray), 0, false, false, false⟩ : S50)⟩ : S63)]) (wrap64 (x8 + 1)) (wrap64 (x9 + 1))) else (none)) else (if x7.length < 3518437208883 then (compare_Script.l0 k x0 x1 x6 (x7 ++ [(⟨t116, (⟨(rd_T50 x1 x9).f0, (rd_T50 x1 x9).f1, (rd_T50 x1 x9).f2, (rd_T50 x1 x9).f3, (rd_T50 x1 x9).f4⟩ : S50)⟩ : S63)]) (wrap64 (x8 + 1)) (wrap64 (x9 + 1))) else (none))) else (compare_Script.j3 k x0 x1 x6 x7 x8 x9)) else (none)) else (none)) else (none)) else (none))) else (none)) else (none))) else (none)) else (none)) else (none)) else (none)) else (compare_Script.j3 k x0 x1 x6 x7 x8 x9)
def compare_Script.j3 : Nat → List (S50) → List (S50) → List (List Int) → List (S63) → Int → Int → Option ((List (S63)) × Int)
 | 0, _, _, _, _, _, _ => none
 | k + 1, x0, x1, x6, x7, x8, x9 => if x9 < (x1.length : Int) then (if 0 ≤ x8 then (if x8 < (x6.length : Int) then (if 0 ≤ x9 then (if x9 < ((rd_L6 x6 x8).length : Int) then ((compare_Cost.f k 4).bind fun t132 => (if 0 ≤ (wrap64 (x9 + 1)) then (if (wrap64 (x9 + 1)) < ((rd_L6 x6 x8).length : Int) then (compare_Script.j4 k x0 x1 x6 x7 x8 x9 ((rd (rd_L6 x6 x8) x9) == (wrap64 (t132 + (rd (rd_L6 x6 x8) (wrap64 (x9 + 1))))))) else (none)) else (none))) else (none)) else (none)) else (none)) else (none)) else (compare_Script.j4 k x0 x1 x6 x7 x8 x9 false)
def compare_Script.j4 : Nat → List (S50) → List (S50) → List (List Int) → List (S63) → Int → Int → Bool → Option ((List (S63)) × Int)
 | 0, _, _, _, _, _, _, _ => none
 | k + 1, x0, x1, x6, x7, x8, x9, x102 => if x102 = true then (if 0 ≤ x9 then (if x9 < (x1.length : Int) then (if x7.length < 3518437208883 then (compare_Script.l0 k x0 x1 x6 (x7 ++ [(⟨4, (⟨(rd_T50 x1 x9).f0, (rd_T50 x1 x9).f1, (rd_T50 x1 x9).f2, (rd_T50 x1 x9).f3, (rd_T50 x1 x9).f4⟩ : S50)⟩ : S63)]) x8 (wrap64 (x9 + 1))) else (none)) else (none)) else (none)) else (if x8 < (x0.length : Int) then (if x7.length < 3518437208883 then (compare_Script.l0 k x0 x1 x6 (x7 ++ [(⟨5, (⟨(⟨#[]⟩ : ByteArray), 0, false, false, false⟩ : S50)⟩ : S63)]) (wrap64 (x8 + 1)) x9) else (none)) else (some (x7, 0)))
end
def compare_Script.f (k : Nat) (l0 : List (S50)) (l1 : List (S50)) : Option ((List (S63)) × Int) := if (l0.length : Int) > 30 then (compare_Script.j0 k l0 l1 true) else (compare_Script.j0 k l0 l1 (decide ((l1.length : Int) > 30)))
theorem compare_Script.mono_l : ∀ k, (∀ y0 y1 y2, LeO (compare_Script.j0 k y0 y1 y2) (compare_Script.j0 (k + 1) y0 y1 y2)) ∧ (∀ y0 y1 y2 y3 y4 y5, LeO (compare_Script.l0 k y0 y1 y2 y3 y4 y5) (compare_Script.l0 (k + 1) y0 y1 y2 y3 y4 y5)) ∧ (∀ y0 y1 y2 y3 y4 y5 y6, LeO (compare_Script.j2 k y0 y1 y2 y3 y4 y5 y6) (compare_Script.j2 (k + 1) y0 y1 y2 y3 y4 y5 y6)) ∧ (∀ y0 y1 y2 y3 y4 y5, LeO (compare_Script.j3 k y0 y1 y2 y3 y4 y5) (compare_Script.j3 (k + 1) y0 y1 y2 y3 y4 y5)) ∧ (∀ y0 y1 y2 y3 y4 y5 y6, LeO (compare_Script.j4 k y0 y1 y2 y3 y4 y5 y6) (compare_Script.j4 (k + 1) y0 y1 y2 y3 y4 y5 y6))
 | 0 => ⟨fun _ _ _ r h => by simp [compare_Script.j0] at h, fun _ _ _ _ _ _ r h => by simp [compare_Script.l0] at h, fun _ _ _ _ _ _ _ r h => by simp [compare_Script.j2] at h, fun _ _ _ _ _ _ r h => by simp [compare_Script.j3] at h, fun _ _ _ _ _ _ _ r h => by simp [compare_Script.j4] at h⟩
 | k + 1 => by
  obtain ⟨ih0, ih1, ih2, ih3, ih4⟩ := compare_Script.mono_l k
  refine ⟨?_, ?_, ?_, ?_, ?_⟩
  ·intro y0 y1 y2
   unfold compare_Script.j0
   repeat' first
   | (with_reducible exact ih0 _ _ _)
   | (with_reducible exact ih1 _ _ _ _ _ _)
   | (with_reducible exact ih2 _ _ _ _ _ _ _)
   | (with_reducible exact ih3 _ _ _ _ _ _)
   | (with_reducible exact ih4 _ _ _ _ _ _ _)
   | (with_reducible exact compare_Cost.mono _ _)
   | (with_reducible exact LeO.refl _)
   | (with_reducible exact LeO.none _)
   | (with_reducible refine LeO.ite ?_ ?_)
   | (with_reducible refine LeO.bind ?_ (fun _ => ?_))
   | exact ih0 _ _ _
   | exact ih1 _ _ _ _ _ _
   | exact ih2 _ _ _ _ _ _ _
   | exact ih3 _ _ _ _ _ _
   | exact ih4 _ _ _ _ _ _ _
   | exact compare_Cost.mono _ _
   | exact LeO.none _
   | refine LeO.ite ?_ ?_
   | refine LeO.bind ?_ (fun _ => ?_)
  ·intro y0 y1 y2 y3 y4 y5
   unfold compare_Script.l0
   repeat' first
   | (with_reducible exact ih0 _ _ _)
   | (with_reducible exact ih1 _ _ _ _ _ _)
   | (with_reducible exact ih2 _ _ _ _ _ _ _)
   | (with_reducible exact ih3 _ _ _ _ _ _)
   | (with_reducible exact ih4 _ _ _ _ _ _ _)
   | (with_reducible exact compare_Cost.mono _ _)
   | (with_reducible exact LeO.refl _)
   | (with_reducible exact LeO.none _)
   | (with_reducible refine LeO.ite ?_ ?_)
   | (with_reducible refine LeO.bind ?_ (fun _ => ?_))
   | exact ih0 _ _ _
   | exact ih1 _ _ _ _ _ _
   | exact ih2 _ _ _ _ _ _ _
   | exact ih3 _ _ _ _ _ _
   | exact ih4 _ _ _ _ _ _ _
   | exact compare_Cost.mono _ _
   | exact LeO.none _
   | refine LeO.ite ?_ ?_
   | refine LeO.bind ?_ (fun _ => ?_)
  ·intro y0 y1 y2 y3 y4 y5 y6
   unfold compare_Script.j2
   repeat' first
   | (with_reducible exact ih0 _ _ _)
   | (with_reducible exact ih1 _ _ _ _ _ _)
   | (with_reducible exact ih2 _ _ _ _ _ _ _)
   | (with_reducible exact ih3 _ _ _ _ _ _)
   | (with_reducible exact ih4 _ _ _ _ _ _ _)
   | (with_reducible exact compare_Cost.mono _ _)
   | (with_reducible exact LeO.refl _)
   | (with_reducible exact LeO.none _)
   | (with_reducible refine LeO.ite ?_ ?_)
   | (with_reducible refine LeO.bind ?_ (fun _ => ?_))
   | exact ih0 _ _ _
   | exact ih1 _ _ _ _ _ _
   | exact ih2 _ _ _ _ _ _ _
   | exact ih3 _ _ _ _ _ _
   | exact ih4 _ _ _ _ _ _ _
   | exact compare_Cost.mono _ _
   | exact LeO.none _
   | refine LeO.ite ?_ ?_
   | refine LeO.bind ?_ (fun _ => ?_)
  ·intro y0 y1 y2 y3 y4 y5
   unfold compare_Script.j3
   repeat' first
   | (with_reducible exact ih0 _ _ _)
   | (with_reducible exact ih1 _ _ _ _ _ _)
   | (with_reducible exact ih2 _ _ _ _ _ _ _)
   | (with_reducible exact ih3 _ _ _ _ _ _)
   | (with_reducible exact ih4 _ _ _ _ _ _ _)
   | (with_reducible exact compare_Cost.mono _ _)
   | (with_reducible exact LeO.refl _)
   | (with_reducible exact LeO.none _)
   | (with_reducible refine LeO.ite ?_ ?_)
   | (with_reducible refine LeO.bind ?_ (fun _ => ?_))
   | exact ih0 _ _ _
   | exact ih1 _ _ _ _ _ _
   | exact ih2 _ _ _ _ _ _ _
   | exact ih3 _ _ _ _ _ _
   | exact ih4 _ _ _ _ _ _ _
   | exact compare_Cost.mono _ _
   | exact LeO.none _
   | refine LeO.ite ?_ ?_
   | refine LeO.bind ?_ (fun _ => ?_)
  ·intro y0 y1 y2 y3 y4 y5 y6
   unfold compare_Script.j4
   repeat' first
   | (with_reducible exact ih0 _ _ _)
   | (with_reducible exact ih1 _ _ _ _ _ _)
   | (with_reducible exact ih2 _ _ _ _ _ _ _)
   | (with_reducible exact ih3 _ _ _ _ _ _)
   | (with_reducible exact ih4 _ _ _ _ _ _ _)
   | (with_reducible exact compare_Cost.mono _ _)
   | (with_reducible exact LeO.refl _)
   | (with_reducible exact LeO.none _)
   | (with_reducible refine LeO.ite ?_ ?_)
   | (with_reducible refine LeO.bind ?_ (fun _ => ?_))
   | exact ih0 _ _ _
   | exact ih1 _ _ _ _ _ _
   | exact ih2 _ _ _ _ _ _ _
   | exact ih3 _ _ _ _ _ _
   | exact ih4 _ _ _ _ _ _ _
   | exact compare_Cost.mono _ _
   | exact LeO.none _
   | refine LeO.ite ?_ ?_
   | refine LeO.bind ?_ (fun _ => ?_)
theorem compare_Script.mono : ∀ a0 a1 k, LeO (compare_Script.f k a0 a1) (compare_Script.f (k + 1) a0 a1) := by
 intro a0 a1 k
 obtain ⟨ih0, ih1, ih2, ih3, ih4⟩ := compare_Script.mono_l k
 unfold compare_Script.f
 repeat' first
   | (with_reducible exact ih0 _ _ _)
   | (with_reducible exact ih1 _ _ _ _ _ _)
   | (with_reducible exact ih2 _ _ _ _ _ _ _)
   | (with_reducible exact ih3 _ _ _ _ _ _)
   | (with_reducible exact ih4 _ _ _ _ _ _ _)
   | (with_reducible exact compare_Cost.mono _ _)
   | (with_reducible exact LeO.refl _)
   | (with_reducible exact LeO.none _)
   | (with_reducible refine LeO.ite ?_ ?_)
   | (with_reducible refine LeO.bind ?_ (fun _ => ?_))
   | exact ih0 _ _ _
   | exact ih1 _ _ _ _ _ _
   | exact ih2 _ _ _ _ _ _ _
   | exact ih3 _ _ _ _ _ _
   | exact ih4 _ _ _ _ _ _ _
   | exact compare_Cost.mono _ _
   | exact LeO.none _
   | refine LeO.ite ?_ ?_
   | refine LeO.bind ?_ (fun _ => ?_)
def compare_Script.T7 : Bool × List (List Nat × List Nat) := (true, [([], []), ([], []), ([0, 1], [0, 1]), ([2], [2]), ([], []), ([], []), ([4, 5], [4, 5]), ([6], [6]), ([3, 7], [3, 7]), ([8, 8, 0, 1, 2, 3, 4, 5, 6, 7, 8], [8])])
def compare_Script.B7 : List Nat := [0, 0, 3, 7, 0, 0, 48, 112, 255, 511]
theorem compare_Script.tab7 : rtab .any (opsOf Try.f15 7) = compare_Script.T7 := by kernel_rfl
theorem compare_Script.bits7 : waitsOk compare_Script.T7.2 compare_Script.B7 = true := by kernel_rfl
def compare_Script.T8 : Bool × List (List Nat × List Nat) := (true, [([], []), ([], []), ([0, 1], [0, 1]), ([2], [2]), ([], []), ([3, 4], [3, 4]), ([5], [5]), ([], []), ([7], [7]), ([], []), ([], []), ([10], [10]), ([9, 11], [9, 11]), ([12], [12]), ([], []), ([14], [14]), ([13, 15], [13, 15]), ([16], [16]), ([8, 17], [8, 17]), ([6, 18], [6, 18])])
def compare_Script.B8 : List Nat := [0, 0, 3, 7, 0, 31, 63, 0, 128, 0, 0, 1024, 3584, 7680, 0, 16384, 65024, 130560, 262016, 524287]
theorem compare_Script.tab8 : rtab .any (opsOf Try.f15 8) = compare_Script.T8 := by kernel_rfl
theorem compare_Script.bits8 : waitsOk compare_Script.T8.2 compare_Script.B8 = true := by kernel_rfl
def compare_Script.T14 : Bool × List (List Nat × List Nat) := (true, [([], []), ([], []), ([1], [1]), ([0, 2], [0, 2]), ([3], [3]), ([4], [4]), ([4], [4]), ([5, 6, 4], [4, 5, 6]), ([7, 4], [4, 7]), ([4], [4]), ([8, 9, 4], [4, 8, 9]), ([10, 4], [4, 10]), ([4, 4], [4]), ([4], [4]), ([4], [4]), ([13, 14, 4], [4, 13, 14]), ([15, 4], [4, 15]), ([4], [4]), ([17, 4], [4, 17]), ([16, 18, 4], [4, 16, 18]), ([19, 4], [4, 19]), ([12, 20, 4], [4, 12, 20]), ([11, 21, 4], [4, 11, 21]), ([4, 22], [4, 22])])
def compare_Script.B14 : List Nat := [0, 0, 2, 7, 15, 31, 31, 127, 255, 31, 1023, 2047, 31, 31, 31, 24607, 57375, 31, 131103, 516127, 1040415, 2093087, 4194303, 8388607]
theorem compare_Script.tab14 : rtab .any (opsOf Try.f15 14) = compare_Script.T14 := by kernel_rfl
theorem compare_Script.bits14 : waitsOk compare_Script.T14.2 compare_Script.B14 = true := by kernel_rfl
set_option maxHeartbeats 8000000 in
set_option maxRecDepth 100000 in
theorem compare_Script.calls (k : Nat) (A0 : Option Addr) (c0 : Nat) (l0 : List (S50)) (A1 : Option Addr) (c1 : Nat) (l1 : List (S50)) (r1 : List (S63)) (r2 : Int) (w : World) (hr0 : Kd.C k50 w A0 l0.length l0) (hc0 : l0.length ≤ c0) (hr1 : Kd.C k50 w A1 l1.length l1) (hc1 : l1.length ≤ c1) (h : compare_Script.f k l0 l1 = some (r1, r2)) :
  Calls Try.prog 15 #[.slice A0 l0.length c0, .slice A1 l1.length c1] w fun e w' => ∃ v0_ : Value, e = .returned (.tuple #[v0_, .int .i64 r2]) ∧ Kd.R k63 63 w' w.heap.size (fun _ => True) v0_ r1 ∧ Below w.heap.size w w' := by
 have hu50 := Try.underlying50
 have hu63 := Try.underlying63
 have HR0 := aS hr0
 have HC0 := aS hc0
 clear hr0 hc0
 have HR1 := aS hr1
 have HC1 := aS hc1
 clear hr1 hc1
 have HB := aS (Below.refl w.heap.size w)
 have H : (if (l0.length : Int) > 30 then (compare_Script.j0 k l0 l1 true) else (compare_Script.j0 k l0 l1 (decide ((l1.length : Int) > 30)))) = some (r1, r2) := h
 clear h
 have HC3 := aS H
 clear H
 go_enter Try.func15, Try.ntmps15
 go_wp2
 refine wp_scope_open 0 (by rfl) ?_
 go_upto_region 1 with (fail)
 go_cut [19] (fun v19 wc => ∃ (kq : Nat) (x19_2 : Bool), v19 = .bool x19_2 ∧ Aside0 (compare_Script.j0 kq l0 l1 x19_2 = some (r1, r2)) ∧ Aside0 (kq ≤ k) ∧ Aside0 (Below w.heap.size w wc))
 case first =>
  have H := HC3.out
  clear HC3
  by_cases c4 : (l0.length : Int) > 30
  rotate_left
  ·rw [if_neg c4] at H
   have c4b0 : decide (30 < (l0.length : Int)) = false := decide_eq_false c4
   have c4b1 : decide (30 < l0.length) = false := decide_eq_false (by omega)
   clear c4
   (first | rw [c4b0] | (simp only [i64_w, i32_w]; rw [c4b0]) | skip)
   have H' := aS H
   clear H
   go_wp2
   go_meet
   case rel => exact ⟨_, (decide ((l1.length : Int) > 30)), (by first | rfl | (simp; done) | (simp [*]; done)), H', ⟨by first | omega | exact Nat.le_refl _⟩, ⟨by first | exact bel HB.out | exact HB.out⟩⟩
  rw [if_pos c4] at H
  have c4b0 : decide (30 < (l0.length : Int)) = true := decide_eq_true c4
  have c4b1 : decide (30 < l0.length) = true := decide_eq_true (by omega)
  clear c4
  (first | rw [c4b0] | (simp only [i64_w, i32_w]; rw [c4b0]) | skip)
  have H' := aS H
  clear H
  go_wp2
  go_meet
  case rel => exact ⟨_, (true), (by first | rfl | (simp; done) | (simp [*]; done)), H', ⟨by first | omega | exact Nat.le_refl _⟩, ⟨by first | exact bel HB.out | exact HB.out⟩⟩
 clear HC3
 try clear c1
 try clear p2
 try clear c4
 try clear c4b0
 try clear c4b1
 obtain ⟨kq, x19_2, rfl, HA, HJ2, HB⟩ := hcut
 cases kq with
 | zero => exact absurd HA.out (by simp [compare_Script.j0])
 | succ kj2 =>
  have H := HA.out
  clear HA
  simp only [compare_Script.j0] at H
  by_cases c5 : x19_2 = true
  ·subst c5
   have H1 : (some (([] : List (S63)), 6)) = some (r1, r2) := by rw [if_pos rfl] at H; exact H
   clear H
   have H := H1
   clear H1
   simp only [Option.some.injEq, Prod.mk.injEq] at H
   obtain ⟨rfl, rfl⟩ := H
   go_wp2
   simp only [Exit.jump]
   go_ret2
   exact ⟨_, by first | rfl | (simp [errW_none, errW_some] <;> rfl) | (simp [*, errW_none, errW_some] <;> rfl), by first | exact Kd.R_nil _ _ _ _ _ | exact Kd.N_nil _ _ _ _ _ | exact Kd.V_nil _ _ _ _ _ | exact Kd.Q_nil _ _ _ _ _ | exact Kd.S_nil _ _ _ _ _, by first | exact bel HB.out | exact HB.out⟩
  replace c5 := Bool.eq_false_iff.mpr c5
  subst c5
  have H1 : ((compare_table.f l0 l1).bind fun t111 => (compare_Script.l0 kj2 l0 l1 t111 ([] : List (S63)) 0 0)) = some (r1, r2) := by rw [if_neg (show ¬ (false = true) by decide)] at H; exact H
  clear H
  have H := H1
  clear H1
  replace H := Option.bind_eq_some_iff.mp H
  obtain ⟨t111, A60, H⟩ := H
  replace H : (compare_Script.l0 kj2 l0 l1 t111 ([] : List (S63)) 0 0) = some (r1, r2) := H
  have A6 := aS A60
  clear A60
  have H' := aS H
  clear H
  go_wp2_with (first | ((with_reducible refine gate_callee (f := 33) rfl ?_); refine goesL_ (some 22) rfl rfl Try.func33 (by kernel_rfl) rfl #[.slice A0 l0.length c0, .slice A1 l1.length c1] rfl (by (try simp only [List.map_toArray, List.map_cons, List.map_nil]); first | done | rfl | (simp only [List.length_drop, List.length_take]; rfl)) ?_; (with_reducible refine (compare_table.calls _ _ l0 _ _ l1 t111 _ ?side1 ?side2 ?side3 ?side4 A6.out).mono ?_); (case side1 => repeat (first | exact (Kd.C_below HR0.out HB.out) | (with_reducible apply Kd.C_alloc) | (with_reducible apply Kd.C_drewN) | (with_reducible apply Kd.C_drew))); (case side2 => exact HC0.out); (case side3 => repeat (first | exact (Kd.C_below HR1.out HB.out) | (with_reducible apply Kd.C_alloc) | (with_reducible apply Kd.C_drewN) | (with_reducible apply Kd.C_drew))); (case side4 => exact HC1.out); rintro e w7 ⟨v112, rfl, ho0, hb⟩; refine ⟨_, rfl, ?_⟩; have n0_ := aS (Kd.N_lower (Kd.N_mono (ok' := fun k_ => True) ho0 (fun k_ hk_ => trivial)) (below_size (by first | exact bel HB.out | exact HB.out))); have n1_ := aS (below_step (by first | exact bel HB.out | exact HB.out) hb); clear HB; have HO113 := n0_; have HB := n1_; clear n0_ n1_; (try clear hb); (try clear hb2); (try clear hk); (try clear hi); (try clear ho0)))
  go_step3
  go_step
  go_step
  refine wp_rest_ghost 0 ?hf (fun kr a' wr => ∃ u2 u3 u4 u5 u7 u8 u9 u10 u11 u12 u13 u14 u15 u16 u17 u18 u19 u20 u21 u22 u23 u24 u25 u26 u27 u28 u29 u30 u31 u32 u33 u34 u35 u36 u37 u38 u39 u40 u41 u42 u43 u44 u45 u46 u47 u48 u49 u50 u51 u52 u53 u54 u55 u56 u57 u58 u59 u60 u61 u62 u63 u64 u65 u66 u67 u68 u69 u70 u71 u72 u73 u74 u75 u76 u77 u78 u79 u80 u81 u82 u83 u84 u85 u86 u87 u88 u89 u90 u91 u92 u93 u94 u95 u96 u97 u98 u99 u100 u101 u102 u103 u104 u105 u106 u107 u108 u109 u110 u111 u112 u113 u114 u115 u116 u117 u118 u119 u120 u121 u122 u123 : Value, (fun kq v7 v8 v9 w' => ∃ (x7_2 : List (S63)) (x8_2 : Int) (x9_2 : Int), v8 = .int .i64 x8_2 ∧ v9 = .int .i64 x9_2 ∧ Aside0 (compare_Script.l0 kq l0 l1 t111 x7_2 x8_2 x9_2 = some (r1, r2)) ∧ Aside0 (kq ≤ kj2) ∧ Aside0 (Kd.N (Kd.slice 3 (Kd.int .i64)) 45 w' w.heap.size (fun k_ => some k_ ≠ (v7 : Value).ownBlock) v112 t111) ∧ Aside0 (Kd.R k63 63 w' w.heap.size (fun _ => True) v7 x7_2) ∧ Aside0 (Below w.heap.size w w')) kr u7 u8 u9 wr ∧ a' = { tmps := #[.slice A0 l0.length c0, .slice A1 l1.length c1, u2, u3, u4, u5, v112, u7, u8, u9, u10, u11, u12, u13, u14, u15, u16, u17, u18, u19, u20, u21, u22, u23, u24, u25, u26, u27, u28, u29, u30, u31, u32, u33, u34, u35, u36, u37, u38, u39, u40, u41, u42, u43, u44, u45, u46, u47, u48, u49, u50, u51, u52, u53, u54, u55, u56, u57, u58, u59, u60, u61, u62, u63, u64, u65, u66, u67, u68, u69, u70, u71, u72, u73, u74, u75, u76, u77, u78, u79, u80, u81, u82, u83, u84, u85, u86, u87, u88, u89, u90, u91, u92, u93, u94, u95, u96, u97, u98, u99, u100, u101, u102, u103, u104, u105, u106, u107, u108, u109, u110, u111, u112, u113, u114, u115, u116, u117, u118, u119, u120, u121, u122, u123], defers := [] }) kj2 ?atStart ?round
  case hf => rfl
  case atStart =>
   (repeat apply Exists.intro)
   refine ⟨?_, rfl⟩
   exact ⟨(([] : List (S63))), (0), (0), (by first | rfl | (simp; done) | (simp [*]; done)), (by first | rfl | (simp; done) | (simp [*]; done)), H', ⟨Nat.le_refl _⟩, ⟨by exact nel <| Kd.N_mono HO113.out (fun _ hk => (by simp [Value.ownBlock]))⟩, ⟨by first | exact Kd.R_nil _ _ _ _ _ | exact Kd.N_nil _ _ _ _ _ | exact Kd.V_nil _ _ _ _ _ | exact Kd.Q_nil _ _ _ _ _ | exact Kd.S_nil _ _ _ _ _⟩, ⟨by first | exact bel HB.out | exact HB.out⟩⟩
  case round =>
   intro gk _ wr hinv
   obtain ⟨u2, hinv⟩ := hinv
   obtain ⟨u3, hinv⟩ := hinv
   obtain ⟨u4, hinv⟩ := hinv
   obtain ⟨u5, hinv⟩ := hinv
   obtain ⟨u7, hinv⟩ := hinv
   obtain ⟨u8, hinv⟩ := hinv
   obtain ⟨u9, hinv⟩ := hinv
   obtain ⟨u10, hinv⟩ := hinv
   obtain ⟨u11, hinv⟩ := hinv
   obtain ⟨u12, hinv⟩ := hinv
   obtain ⟨u13, hinv⟩ := hinv
   obtain ⟨u14, hinv⟩ := hinv
   obtain ⟨u15, hinv⟩ := hinv
   obtain ⟨u16, hinv⟩ := hinv
   obtain ⟨u17, hinv⟩ := hinv
   obtain ⟨u18, hinv⟩ := hinv
   obtain ⟨u19, hinv⟩ := hinv
   obtain ⟨u20, hinv⟩ := hinv
   obtain ⟨u21, hinv⟩ := hinv
   obtain ⟨u22, hinv⟩ := hinv
   obtain ⟨u23, hinv⟩ := hinv
   obtain ⟨u24, hinv⟩ := hinv
   obtain ⟨u25, hinv⟩ := hinv
   obtain ⟨u26, hinv⟩ := hinv
   obtain ⟨u27, hinv⟩ := hinv
   obtain ⟨u28, hinv⟩ := hinv
   obtain ⟨u29, hinv⟩ := hinv
   obtain ⟨u30, hinv⟩ := hinv
   obtain ⟨u31, hinv⟩ := hinv
   obtain ⟨u32, hinv⟩ := hinv
   obtain ⟨u33, hinv⟩ := hinv
   obtain ⟨u34, hinv⟩ := hinv
   obtain ⟨u35, hinv⟩ := hinv
   obtain ⟨u36, hinv⟩ := hinv
   obtain ⟨u37, hinv⟩ := hinv
   obtain ⟨u38, hinv⟩ := hinv
   obtain ⟨u39, hinv⟩ := hinv
   obtain ⟨u40, hinv⟩ := hinv
   obtain ⟨u41, hinv⟩ := hinv
   obtain ⟨u42, hinv⟩ := hinv
   obtain ⟨u43, hinv⟩ := hinv
   obtain ⟨u44, hinv⟩ := hinv
   obtain ⟨u45, hinv⟩ := hinv
   obtain ⟨u46, hinv⟩ := hinv
   obtain ⟨u47, hinv⟩ := hinv
   obtain ⟨u48, hinv⟩ := hinv
   obtain ⟨u49, hinv⟩ := hinv
   obtain ⟨u50, hinv⟩ := hinv
   obtain ⟨u51, hinv⟩ := hinv
   obtain ⟨u52, hinv⟩ := hinv
   obtain ⟨u53, hinv⟩ := hinv
   obtain ⟨u54, hinv⟩ := hinv
   obtain ⟨u55, hinv⟩ := hinv
   obtain ⟨u56, hinv⟩ := hinv
   obtain ⟨u57, hinv⟩ := hinv
   obtain ⟨u58, hinv⟩ := hinv
   obtain ⟨u59, hinv⟩ := hinv
   obtain ⟨u60, hinv⟩ := hinv
   obtain ⟨u61, hinv⟩ := hinv
   obtain ⟨u62, hinv⟩ := hinv
   obtain ⟨u63, hinv⟩ := hinv
   obtain ⟨u64, hinv⟩ := hinv
   obtain ⟨u65, hinv⟩ := hinv
   obtain ⟨u66, hinv⟩ := hinv
   obtain ⟨u67, hinv⟩ := hinv
   obtain ⟨u68, hinv⟩ := hinv
   obtain ⟨u69, hinv⟩ := hinv
   obtain ⟨u70, hinv⟩ := hinv
   obtain ⟨u71, hinv⟩ := hinv
   obtain ⟨u72, hinv⟩ := hinv
   obtain ⟨u73, hinv⟩ := hinv
   obtain ⟨u74, hinv⟩ := hinv
   obtain ⟨u75, hinv⟩ := hinv
   obtain ⟨u76, hinv⟩ := hinv
   obtain ⟨u77, hinv⟩ := hinv
   obtain ⟨u78, hinv⟩ := hinv
   obtain ⟨u79, hinv⟩ := hinv
   obtain ⟨u80, hinv⟩ := hinv
   obtain ⟨u81, hinv⟩ := hinv
   obtain ⟨u82, hinv⟩ := hinv
   obtain ⟨u83, hinv⟩ := hinv
   obtain ⟨u84, hinv⟩ := hinv
   obtain ⟨u85, hinv⟩ := hinv
   obtain ⟨u86, hinv⟩ := hinv
   obtain ⟨u87, hinv⟩ := hinv
   obtain ⟨u88, hinv⟩ := hinv
   obtain ⟨u89, hinv⟩ := hinv
   obtain ⟨u90, hinv⟩ := hinv
   obtain ⟨u91, hinv⟩ := hinv
   obtain ⟨u92, hinv⟩ := hinv
   obtain ⟨u93, hinv⟩ := hinv
   obtain ⟨u94, hinv⟩ := hinv
   obtain ⟨u95, hinv⟩ := hinv
   obtain ⟨u96, hinv⟩ := hinv
   obtain ⟨u97, hinv⟩ := hinv
   obtain ⟨u98, hinv⟩ := hinv
   obtain ⟨u99, hinv⟩ := hinv
   obtain ⟨u100, hinv⟩ := hinv
   obtain ⟨u101, hinv⟩ := hinv
   obtain ⟨u102, hinv⟩ := hinv
   obtain ⟨u103, hinv⟩ := hinv
   obtain ⟨u104, hinv⟩ := hinv
   obtain ⟨u105, hinv⟩ := hinv
   obtain ⟨u106, hinv⟩ := hinv
   obtain ⟨u107, hinv⟩ := hinv
   obtain ⟨u108, hinv⟩ := hinv
   obtain ⟨u109, hinv⟩ := hinv
   obtain ⟨u110, hinv⟩ := hinv
   obtain ⟨u111, hinv⟩ := hinv
   obtain ⟨u112, hinv⟩ := hinv
   obtain ⟨u113, hinv⟩ := hinv
   obtain ⟨u114, hinv⟩ := hinv
   obtain ⟨u115, hinv⟩ := hinv
   obtain ⟨u116, hinv⟩ := hinv
   obtain ⟨u117, hinv⟩ := hinv
   obtain ⟨u118, hinv⟩ := hinv
   obtain ⟨u119, hinv⟩ := hinv
   obtain ⟨u120, hinv⟩ := hinv
   obtain ⟨u121, hinv⟩ := hinv
   obtain ⟨u122, hinv⟩ := hinv
   obtain ⟨u123, hinv⟩ := hinv
   obtain ⟨hrel, ha⟩ := hinv
   subst ha
   try dsimp only
   intro _ _ _ _
   clear H'
   try clear c1
   try clear p2
   try clear c3
   try clear c4
   try clear c4b0
   try clear c4b1
   try clear c5
   try clear p2
   obtain ⟨x7_2, x8_2, x9_2, rfl, rfl, HA, HK2, HO_6, HO_7, HB⟩ := hrel
   cases gk with
   | zero => exact absurd HA.out (by simp [compare_Script.l0])
   | succ k2 =>
    have H := HA.out
    clear HA
    simp only [compare_Script.l0] at H
    have HC8 := aS H
    clear H
    go_upto_region 6 with (fail)
    go_cut [32] (fun v32 wc => ∃ (kq : Nat) (x32_7 : Bool), v32 = .bool x32_7 ∧ Aside0 (compare_Script.j2 kq l0 l1 t111 x7_2 x8_2 x9_2 x32_7 = some (r1, r2)) ∧ Aside0 (kq ≤ k2) ∧ Aside0 (Kd.N (Kd.slice 3 (Kd.int .i64)) 45 wc w.heap.size (fun k_ => some k_ ≠ (u7 : Value).ownBlock) v112 t111) ∧ Aside0 (Kd.R k63 63 wc w.heap.size (fun _ => True) u7 x7_2) ∧ Aside0 (Below w.heap.size w wc))
    case first =>
     have H := HC8.out
     clear HC8
     by_cases c9 : x8_2 < (l0.length : Int)
     rotate_left
     ·rw [if_neg c9] at H
      have c9b0 : decide (x8_2 < (l0.length : Int)) = false := decide_eq_false c9
      clear c9
      (first | rw [c9b0] | (simp only [i64_w, i32_w]; rw [c9b0]) | skip)
      have H' := aS H
      clear H
      go_wp2
      go_meet
      case rel => exact ⟨_, (false), (by first | rfl | (simp; done) | (simp [*]; done)), H', ⟨by have := HJ2.out; have := HK2.out; first | omega | exact Nat.le_refl _⟩, ⟨by exact nel <| HO_6.out⟩, ⟨by exact rel <| HO_7.out⟩, ⟨by first | exact bel HB.out | exact HB.out⟩⟩
     rw [if_pos c9] at H
     have c9b0 : decide (x8_2 < (l0.length : Int)) = true := decide_eq_true c9
     clear c9
     (first | rw [c9b0] | (simp only [i64_w, i32_w]; rw [c9b0]) | skip)
     have H' := aS H
     clear H
     go_wp2
     go_meet
     case rel => exact ⟨_, (decide (x9_2 < (l1.length : Int))), (by first | rfl | (simp; done) | (simp [*]; done)), H', ⟨by have := HJ2.out; have := HK2.out; first | omega | exact Nat.le_refl _⟩, ⟨by exact nel <| HO_6.out⟩, ⟨by exact rel <| HO_7.out⟩, ⟨by first | exact bel HB.out | exact HB.out⟩⟩
    clear HC8
    try clear c1
    try clear p2
    try clear c3
    try clear c4
    try clear c4b0
    try clear c4b1
    try clear c5
    try clear c9
    try clear c9b0
    try clear p2
    obtain ⟨kq, x32_7, rfl, HA, HJ7, HO_6, HO_7, HB⟩ := hcut
    cases kq with
    | zero => exact absurd HA.out (by simp [compare_Script.j2])
    | succ kj7 =>
     have H := HA.out
     clear HA
     simp only [compare_Script.j2] at H
     have HC10 := aS H
     clear H
     go_upto_if 32 with (fail)
     go_cut [7, 8, 9] (fun v7 v8 v9 wc => ∃ (kq : Nat) (x7_9 : List (S63)) (x8_9 : Int) (x9_9 : Int), v8 = .int .i64 x8_9 ∧ v9 = .int .i64 x9_9 ∧ Aside0 (compare_Script.j3 kq l0 l1 t111 x7_9 x8_9 x9_9 = some (r1, r2)) ∧ Aside0 (kq ≤ kj7) ∧ Aside0 (Kd.N (Kd.slice 3 (Kd.int .i64)) 45 wc w.heap.size (fun k_ => some k_ ≠ (v7 : Value).ownBlock) v112 t111) ∧ Aside0 (Kd.R k63 63 wc w.heap.size (fun _ => True) v7 x7_9) ∧ Aside0 (Below w.heap.size w wc))
     case first =>
      have H := HC10.out
      clear HC10
      by_cases c11 : x32_7 = true
      rotate_left
      ·replace c11 := Bool.eq_false_iff.mpr c11
       subst c11
       have H1 : (compare_Script.j3 kj7 l0 l1 t111 x7_2 x8_2 x9_2) = some (r1, r2) := by rw [if_neg (show ¬ (false = true) by decide)] at H; exact H
       clear H
       have H := H1
       clear H1
       have H' := aS H
       clear H
       go_wp2
       go_meet
       case rel => exact ⟨_, (x7_2), (x8_2), (x9_2), (by first | rfl | (simp; done) | (simp [*]; done)), (by first | rfl | (simp; done) | (simp [*]; done)), H', ⟨by have := HJ2.out; have := HK2.out; have := HJ7.out; first | omega | exact Nat.le_refl _⟩, ⟨by exact nel <| HO_6.out⟩, ⟨by exact rel <| HO_7.out⟩, ⟨by first | exact bel HB.out | exact HB.out⟩⟩
      subst c11
      have H1 : (if 0 ≤ x8_2 then (if x8_2 < (l0.length : Int) then (if 0 ≤ x9_2 then (if x9_2 < (l1.length : Int) then ((compare_taking.f ((rd_T50 l0 x8_2).f0) ((rd_T50 l0 x8_2).f1) ((rd_T50 l0 x8_2).f2) ((rd_T50 l0 x8_2).f3) ((rd_T50 l0 x8_2).f4) ((rd_T50 l1 x9_2).f0) ((rd_T50 l1 x9_2).f1) ((rd_T50 l1 x9_2).f2) ((rd_T50 l1 x9_2).f3) ((rd_T50 l1 x9_2).f4)).bind fun t116 => (if x8_2 < (t111.length : Int) then (if x9_2 < ((rd_L6 t111 x8_2).length : Int) then ((compare_Cost.f kj7 t116).bind fun t119 => (if 0 ≤ (wrap64 (x8_2 + 1)) then (if (wrap64 (x8_2 + 1)) < (t111.length : Int) then (if 0 ≤ (wrap64 (x9_2 + 1)) then (if (wrap64 (x9_2 + 1)) < ((rd_L6 t111 (wrap64 (x8_2 + 1))).length : Int) then (if (rd (rd_L6 t111 x8_2) x9_2) = (wrap64 (t119 + (rd (rd_L6 t111 (wrap64 (x8_2 + 1))) (wrap64 (x9_2 + 1))))) then (if t116 = 1 then (if x7_2.length < 3518437208883 then (compare_Script.l0 kj7 l0 l1 t111 (x7_2 ++ [(⟨t116, (⟨(⟨#[]⟩ : ByteArray), 0, false, false, false⟩ : S50)⟩ : S63)]) (wrap64 (x8_2 + 1)) (wrap64 (x9_2 + 1))) else (none)) else (if x7_2.length < 3518437208883 then (compare_Script.l0 kj7 l0 l1 t111 (x7_2 ++ [(⟨t116, (⟨(rd_T50 l1 x9_2).f0, (rd_T50 l1 x9_2).f1, (rd_T50 l1 x9_2).f2, (rd_T50 l1 x9_2).f3, (rd_T50 l1 x9_2).f4⟩ : S50)⟩ : S63)]) (wrap64 (x8_2 + 1)) (wrap64 (x9_2 + 1))) else (none))) else (compare_Script.j3 kj7 l0 l1 t111 x7_2 x8_2 x9_2)) else (none)) else (none)) else (none)) else (none))) else (none)) else (none))) else (none)) else (none)) else (none)) else (none)) = some (r1, r2) := by rw [if_pos rfl] at H; exact H
      clear H
      have H := H1
      clear H1
      by_cases c12 : 0 ≤ x8_2
      rotate_left
      ·rw [if_neg c12] at H
       exact absurd H (by simp)
      rw [if_pos c12] at H
      have c12b0 : decide (0 ≤ x8_2) = true := decide_eq_true c12
      clear c12
      (first | rw [c12b0] | (simp only [i64_w, i32_w]; rw [c12b0]) | skip)
      by_cases c13 : x8_2 < (l0.length : Int)
      rotate_left
      ·rw [if_neg c13] at H
       exact absurd H (by simp)
      rw [if_pos c13] at H
      have c13b0 : decide (x8_2 < (l0.length : Int)) = true := decide_eq_true c13
      clear c13
      by_cases c14 : 0 ≤ x9_2
      rotate_left
      ·rw [if_neg c14] at H
       exact absurd H (by simp)
      rw [if_pos c14] at H
      have c14b0 : decide (0 ≤ x9_2) = true := decide_eq_true c14
      clear c14
      by_cases c15 : x9_2 < (l1.length : Int)
      rotate_left
      ·rw [if_neg c15] at H
       exact absurd H (by simp)
      rw [if_pos c15] at H
      have c15b0 : decide (x9_2 < (l1.length : Int)) = true := decide_eq_true c15
      clear c15
      replace H := Option.bind_eq_some_iff.mp H
      obtain ⟨t116, A160, H⟩ := H
      replace H : (if x8_2 < (t111.length : Int) then (if x9_2 < ((rd_L6 t111 x8_2).length : Int) then ((compare_Cost.f kj7 t116).bind fun t119 => (if 0 ≤ (wrap64 (x8_2 + 1)) then (if (wrap64 (x8_2 + 1)) < (t111.length : Int) then (if 0 ≤ (wrap64 (x9_2 + 1)) then (if (wrap64 (x9_2 + 1)) < ((rd_L6 t111 (wrap64 (x8_2 + 1))).length : Int) then (if (rd (rd_L6 t111 x8_2) x9_2) = (wrap64 (t119 + (rd (rd_L6 t111 (wrap64 (x8_2 + 1))) (wrap64 (x9_2 + 1))))) then (if t116 = 1 then (if x7_2.length < 3518437208883 then (compare_Script.l0 kj7 l0 l1 t111 (x7_2 ++ [(⟨t116, (⟨(⟨#[]⟩ : ByteArray), 0, false, false, false⟩ : S50)⟩ : S63)]) (wrap64 (x8_2 + 1)) (wrap64 (x9_2 + 1))) else (none)) else (if x7_2.length < 3518437208883 then (compare_Script.l0 kj7 l0 l1 t111 (x7_2 ++ [(⟨t116, (⟨(rd_T50 l1 x9_2).f0, (rd_T50 l1 x9_2).f1, (rd_T50 l1 x9_2).f2, (rd_T50 l1 x9_2).f3, (rd_T50 l1 x9_2).f4⟩ : S50)⟩ : S63)]) (wrap64 (x8_2 + 1)) (wrap64 (x9_2 + 1))) else (none))) else (compare_Script.j3 kj7 l0 l1 t111 x7_2 x8_2 x9_2)) else (none)) else (none)) else (none)) else (none))) else (none)) else (none)) = some (r1, r2) := H
      have A16 := aS A160
      clear A160
      by_cases c17 : x8_2 < (t111.length : Int)
      rotate_left
      ·rw [if_neg c17] at H
       exact absurd H (by simp)
      rw [if_pos c17] at H
      have c17b0 : decide (x8_2 < (t111.length : Int)) = true := decide_eq_true c17
      clear c17
      by_cases c18 : x9_2 < ((rd_L6 t111 x8_2).length : Int)
      rotate_left
      ·rw [if_neg c18] at H
       exact absurd H (by simp)
      rw [if_pos c18] at H
      have c18b0 : decide (x9_2 < ((rd_L6 t111 x8_2).length : Int)) = true := decide_eq_true c18
      clear c18
      replace H := Option.bind_eq_some_iff.mp H
      obtain ⟨t119, A190, H⟩ := H
      replace H : (if 0 ≤ (wrap64 (x8_2 + 1)) then (if (wrap64 (x8_2 + 1)) < (t111.length : Int) then (if 0 ≤ (wrap64 (x9_2 + 1)) then (if (wrap64 (x9_2 + 1)) < ((rd_L6 t111 (wrap64 (x8_2 + 1))).length : Int) then (if (rd (rd_L6 t111 x8_2) x9_2) = (wrap64 (t119 + (rd (rd_L6 t111 (wrap64 (x8_2 + 1))) (wrap64 (x9_2 + 1))))) then (if t116 = 1 then (if x7_2.length < 3518437208883 then (compare_Script.l0 kj7 l0 l1 t111 (x7_2 ++ [(⟨t116, (⟨(⟨#[]⟩ : ByteArray), 0, false, false, false⟩ : S50)⟩ : S63)]) (wrap64 (x8_2 + 1)) (wrap64 (x9_2 + 1))) else (none)) else (if x7_2.length < 3518437208883 then (compare_Script.l0 kj7 l0 l1 t111 (x7_2 ++ [(⟨t116, (⟨(rd_T50 l1 x9_2).f0, (rd_T50 l1 x9_2).f1, (rd_T50 l1 x9_2).f2, (rd_T50 l1 x9_2).f3, (rd_T50 l1 x9_2).f4⟩ : S50)⟩ : S63)]) (wrap64 (x8_2 + 1)) (wrap64 (x9_2 + 1))) else (none))) else (compare_Script.j3 kj7 l0 l1 t111 x7_2 x8_2 x9_2)) else (none)) else (none)) else (none)) else (none)) = some (r1, r2) := H
      have A19 := aS A190
      clear A190
      obtain ⟨ji20, hji20⟩ : ∃ j_ : Int, (wrap64 (x8_2 + 1)) = j_ := ⟨_, rfl⟩
      replace H : (if 0 ≤ (ji20) then (if (ji20) < (t111.length : Int) then (if 0 ≤ (wrap64 (x9_2 + 1)) then (if (wrap64 (x9_2 + 1)) < ((rd_L6 t111 (ji20)).length : Int) then (if (rd (rd_L6 t111 x8_2) x9_2) = (wrap64 (t119 + (rd (rd_L6 t111 (ji20)) (wrap64 (x9_2 + 1))))) then (if t116 = 1 then (if x7_2.length < 3518437208883 then (compare_Script.l0 kj7 l0 l1 t111 (x7_2 ++ [(⟨t116, (⟨(⟨#[]⟩ : ByteArray), 0, false, false, false⟩ : S50)⟩ : S63)]) ji20 (wrap64 (x9_2 + 1))) else (none)) else (if x7_2.length < 3518437208883 then (compare_Script.l0 kj7 l0 l1 t111 (x7_2 ++ [(⟨t116, (⟨(rd_T50 l1 x9_2).f0, (rd_T50 l1 x9_2).f1, (rd_T50 l1 x9_2).f2, (rd_T50 l1 x9_2).f3, (rd_T50 l1 x9_2).f4⟩ : S50)⟩ : S63)]) ji20 (wrap64 (x9_2 + 1))) else (none))) else (compare_Script.j3 kj7 l0 l1 t111 x7_2 x8_2 x9_2)) else (none)) else (none)) else (none)) else (none)) = some (r1, r2) := by first | (rw [hji20] at H; exact H) | (simp only [hji20] at H ⊢; exact H)
      (try rw [hji20] at A16)
      (try rw [hji20] at A19)
      have hji20w : (IntKind.i64.wrap (x8_2 + 1)) = ji20 := (i64_w _).trans hji20
      by_cases c21 : 0 ≤ (ji20)
      rotate_left
      ·rw [if_neg c21] at H
       exact absurd H (by simp)
      rw [if_pos c21] at H
      have c21b0 : decide (0 ≤ (ji20)) = true := decide_eq_true c21
      clear c21
      by_cases c22 : (ji20) < (t111.length : Int)
      rotate_left
      ·rw [if_neg c22] at H
       exact absurd H (by simp)
      rw [if_pos c22] at H
      have c22b0 : decide ((ji20) < (t111.length : Int)) = true := decide_eq_true c22
      clear c22
      obtain ⟨ji23, hji23⟩ : ∃ j_ : Int, (wrap64 (x9_2 + 1)) = j_ := ⟨_, rfl⟩
      replace H : (if 0 ≤ (ji23) then (if (ji23) < ((rd_L6 t111 (ji20)).length : Int) then (if (rd (rd_L6 t111 x8_2) x9_2) = (wrap64 (t119 + (rd (rd_L6 t111 (ji20)) (ji23)))) then (if t116 = 1 then (if x7_2.length < 3518437208883 then (compare_Script.l0 kj7 l0 l1 t111 (x7_2 ++ [(⟨t116, (⟨(⟨#[]⟩ : ByteArray), 0, false, false, false⟩ : S50)⟩ : S63)]) ji20 ji23) else (none)) else (if x7_2.length < 3518437208883 then (compare_Script.l0 kj7 l0 l1 t111 (x7_2 ++ [(⟨t116, (⟨(rd_T50 l1 x9_2).f0, (rd_T50 l1 x9_2).f1, (rd_T50 l1 x9_2).f2, (rd_T50 l1 x9_2).f3, (rd_T50 l1 x9_2).f4⟩ : S50)⟩ : S63)]) ji20 ji23) else (none))) else (compare_Script.j3 kj7 l0 l1 t111 x7_2 x8_2 x9_2)) else (none)) else (none)) = some (r1, r2) := by first | (rw [hji23] at H; exact H) | (simp only [hji23] at H ⊢; exact H)
      (try rw [hji23] at A16)
      (try rw [hji23] at A19)
      have hji23w : (IntKind.i64.wrap (x9_2 + 1)) = ji23 := (i64_w _).trans hji23
      by_cases c24 : 0 ≤ (ji23)
      rotate_left
      ·rw [if_neg c24] at H
       exact absurd H (by simp)
      rw [if_pos c24] at H
      have c24b0 : decide (0 ≤ (ji23)) = true := decide_eq_true c24
      clear c24
      by_cases c25 : (ji23) < ((rd_L6 t111 (ji20)).length : Int)
      rotate_left
      ·rw [if_neg c25] at H
       exact absurd H (by simp)
      rw [if_pos c25] at H
      have c25b0 : decide ((ji23) < ((rd_L6 t111 (ji20)).length : Int)) = true := decide_eq_true c25
      clear c25
      by_cases c26 : (rd (rd_L6 t111 x8_2) x9_2) = (wrap64 (t119 + (rd (rd_L6 t111 (ji20)) (ji23))))
      rotate_left
      ·rw [if_neg c26] at H
       have c26b0 : ((rd (rd_L6 t111 x8_2) x9_2) == (wrap64 (t119 + (rd (rd_L6 t111 (ji20)) (ji23))))) = false := beq_eq_false_iff_ne.mpr c26
       have c26b1 : ((rd (rd_L6 t111 x8_2) x9_2) != (wrap64 (t119 + (rd (rd_L6 t111 (ji20)) (ji23))))) = true := bne_iff_ne.mpr c26
       have H' := aS H
       clear H
       try go_wp2
       have n0_ := aS (Kd.N_drew HO_6.out)
       have n1_ := aS (Kd.R_drew HO_7.out)
       have n2_ := aS (below_drew1 HB.out)
       clear HO_6
       clear HO_7
       clear HB
       have HO_6 := n0_
       have HO_7 := n1_
       have HB := n2_
       clear n0_ n1_ n2_
       have p114 : 0 ≤ (x8_2 : Int) := of_decide_eq_true (by first | (with_reducible assumption) | assumption)
       have q114 : x8_2 < (l0.length : Int) := of_decide_eq_true (by first | (with_reducible assumption) | assumption)
       obtain ⟨ad114, e114, hx114_0, hx114_1, hx114_2, hx114_3, hx114_4⟩ := at_T50 HR0.out x8_2 p114 q114
       have hw114_4 := hx114_4
       have hw114_3 := hx114_3
       have hw114_2 := hx114_2
       have hw114_1 := hx114_1
       have hw114_0 := hx114_0
       cases e114
       replace hx114_0 := hup HB.out hx114_0
       replace hx114_1 := hup HB.out hx114_1
       replace hx114_2 := hup HB.out hx114_2
       replace hx114_3 := hup HB.out hx114_3
       replace hx114_4 := hup HB.out hx114_4
       replace p114 := eq_true p114
       replace q114 := eq_true q114
       have p115 : 0 ≤ (x9_2 : Int) := of_decide_eq_true (by first | (with_reducible assumption) | assumption)
       have q115 : x9_2 < (l1.length : Int) := of_decide_eq_true (by first | (with_reducible assumption) | assumption)
       obtain ⟨ad115, e115, hx115_0, hx115_1, hx115_2, hx115_3, hx115_4⟩ := at_T50 HR1.out x9_2 p115 q115
       have hw115_4 := hx115_4
       have hw115_3 := hx115_3
       have hw115_2 := hx115_2
       have hw115_1 := hx115_1
       have hw115_0 := hx115_0
       cases e115
       replace hx115_0 := hup HB.out hx115_0
       replace hx115_1 := hup HB.out hx115_1
       replace hx115_2 := hup HB.out hx115_2
       replace hx115_3 := hup HB.out hx115_3
       replace hx115_4 := hup HB.out hx115_4
       replace p115 := eq_true p115
       replace q115 := eq_true q115
       refine start_ (n := 10) (S := fun w' => w'.cell? (ad114.add ((x8_2).toNat * 5)) = some (.string ((rd_T50 l0 x8_2).f0)) ∧ w'.cell? ⟨(ad114.add ((x8_2).toNat * 5)).block, (ad114.add ((x8_2).toNat * 5)).off + 1, none⟩ = some (.int .i64 ((rd_T50 l0 x8_2).f1)) ∧ w'.cell? ⟨(ad114.add ((x8_2).toNat * 5)).block, (ad114.add ((x8_2).toNat * 5)).off + 2, none⟩ = some (.bool ((rd_T50 l0 x8_2).f2)) ∧ w'.cell? ⟨(ad114.add ((x8_2).toNat * 5)).block, (ad114.add ((x8_2).toNat * 5)).off + 3, none⟩ = some (.bool ((rd_T50 l0 x8_2).f3)) ∧ w'.cell? ⟨(ad114.add ((x8_2).toNat * 5)).block, (ad114.add ((x8_2).toNat * 5)).off + 4, none⟩ = some (.bool ((rd_T50 l0 x8_2).f4)) ∧ w'.cell? (ad115.add ((x9_2).toNat * 5)) = some (.string ((rd_T50 l1 x9_2).f0)) ∧ w'.cell? ⟨(ad115.add ((x9_2).toNat * 5)).block, (ad115.add ((x9_2).toNat * 5)).off + 1, none⟩ = some (.int .i64 ((rd_T50 l1 x9_2).f1)) ∧ w'.cell? ⟨(ad115.add ((x9_2).toNat * 5)).block, (ad115.add ((x9_2).toNat * 5)).off + 2, none⟩ = some (.bool ((rd_T50 l1 x9_2).f2)) ∧ w'.cell? ⟨(ad115.add ((x9_2).toNat * 5)).block, (ad115.add ((x9_2).toNat * 5)).off + 3, none⟩ = some (.bool ((rd_T50 l1 x9_2).f3)) ∧ w'.cell? ⟨(ad115.add ((x9_2).toNat * 5)).block, (ad115.add ((x9_2).toNat * 5)).off + 4, none⟩ = some (.bool ((rd_T50 l1 x9_2).f4))) (ds := []) #[false, false, false, false, false, false, false, false, false, false] (by kernel_rfl) rfl rfl ⟨(hup HB.out hw114_0), (hup HB.out hw114_1), (hup HB.out hw114_2), (hup HB.out hw114_3), (hup HB.out hw114_4), (hup HB.out hw115_0), (hup HB.out hw115_1), (hup HB.out hw115_2), (hup HB.out hw115_3), (hup HB.out hw115_4)⟩ (fun hHeld => ?_); refine with_tabW compare_Script.tab7 compare_Script.bits7 (fun HT_ HW_ => ?_)
       generalize wc.drew = w44 at HO_6 HO_7 HB hx114_0 hx114_1 hx114_2 hx114_3 hx114_4 hx115_0 hx115_1 hx115_2 hx115_3 hx115_4 hHeld ⊢
       refine pure_ (i := 0) (N := some 33) (v := ?_) (a' := ?_) (bs 10 1) rfl rfl (any_of HT_.out (by kernel_rfl)) (fun _ _ _ h => h) (Or.inl ⟨by rfl, ?_⟩) ?_ ?_
       rotate_left
       ·intro w'
        go_simp
        with_reducible rfl
       rotate_left
       ·simp only [Act.put, sA, sZ, sS, i64_w, i32_w]
        rfl
       refine pure_ (i := 1) (N := some 34) (v := ?_) (a' := ?_) (bs 10 3) rfl rfl (any_of HT_.out (by kernel_rfl)) (fun _ _ _ h => h) (Or.inl ⟨by rfl, ?_⟩) ?_ ?_
       rotate_left
       ·intro w'
        go_simp
        with_reducible rfl
       rotate_left
       ·simp only [Act.put, sA, sZ, sS, i64_w, i32_w]
        rfl
       refine pure_ (i := 2) (N := some 35) (v := ?_) (a' := ?_) (bs 10 7) rfl rfl (any_of HT_.out (by kernel_rfl)) (fun _ _ _ h => h) (Or.inl ⟨by rfl, ?_⟩) ?_ ?_
       rotate_left
       ·intro w'
        go_simp
        with_reducible rfl
       rotate_left
       ·simp only [Act.put, sA, sZ, sS, i64_w, i32_w]
        rfl
       refine pure_ (i := 4) (N := some 37) (v := ?_) (a' := ?_) (bs 10 23) rfl rfl (any_of HT_.out (by kernel_rfl)) (fun _ _ _ h => h) (Or.inl ⟨by rfl, ?_⟩) ?_ ?_
       rotate_left
       ·intro w'
        go_simp
        with_reducible rfl
       rotate_left
       ·simp only [Act.put, sA, sZ, sS, i64_w, i32_w]
        rfl
       refine pure_ (i := 5) (N := some 38) (v := ?_) (a' := ?_) (bs 10 55) rfl rfl (any_of HT_.out (by kernel_rfl)) (fun _ _ _ h => h) (Or.inl ⟨by rfl, ?_⟩) ?_ ?_
       rotate_left
       ·intro w'
        go_simp
        with_reducible rfl
       rotate_left
       ·simp only [Act.put, sA, sZ, sS, i64_w, i32_w]
        rfl
       refine pure_ (i := 6) (N := some 39) (v := ?_) (a' := ?_) (bs 10 119) rfl rfl (any_of HT_.out (by kernel_rfl)) (fun _ _ _ h => h) (Or.inl ⟨by rfl, ?_⟩) ?_ ?_
       rotate_left
       ·intro w'
        go_simp
        with_reducible rfl
       rotate_left
       ·simp only [Act.put, sA, sZ, sS, i64_w, i32_w]
        rfl
       refine take_ (i := 3) (N := some 36) (v := ?_) (a' := ?_) (bs 10 127) rfl rfl (take_ofW HT_.out HW_.out (by kernel_rfl)) (fun _ _ _ h => h) (Or.inl ⟨by rfl, ?_⟩) hHeld ?_ ?_
       rotate_left
       ·rintro w' ⟨s0, s1, s2, s3, s4, s5, s6, s7, s8, s9⟩
        go_simp
        with_reducible rfl
       rotate_left
       ·simp only [Act.put, sA, sZ, sS, i64_w, i32_w]
        rfl
       refine take_ (i := 7) (N := some 40) (v := ?_) (a' := ?_) (bs 10 255) rfl rfl (take_ofW HT_.out HW_.out (by kernel_rfl)) (fun _ _ _ h => h) (Or.inl ⟨by rfl, ?_⟩) hHeld ?_ ?_
       rotate_left
       ·rintro w' ⟨s0, s1, s2, s3, s4, s5, s6, s7, s8, s9⟩
        go_simp
        with_reducible rfl
       rotate_left
       ·simp only [Act.put, sA, sZ, sS, i64_w, i32_w]
        rfl
       refine one_ (i := 8) (N := some 41) (bs 10 511) rfl rfl (one_of HT_.out (by kernel_rfl)) (by decide) (fun K hK => ?_)
       refine goes_ Try.func35 (by kernel_rfl) rfl #[.agg #[.string ((rd_T50 l0 x8_2).f0), .int .i64 ((rd_T50 l0 x8_2).f1), .bool ((rd_T50 l0 x8_2).f2), .bool ((rd_T50 l0 x8_2).f3), .bool ((rd_T50 l0 x8_2).f4)], .agg #[.string ((rd_T50 l1 x9_2).f0), .int .i64 ((rd_T50 l1 x9_2).f1), .bool ((rd_T50 l1 x9_2).f2), .bool ((rd_T50 l1 x9_2).f3), .bool ((rd_T50 l1 x9_2).f4)]] (by rfl) rfl rfl (by (try simp only [List.map_toArray, List.map_cons, List.map_nil]); first | done | rfl | (simp only [List.length_drop, List.length_take]; rfl)) ?_
       with_reducible refine (compare_taking.calls ((rd_T50 l0 x8_2).f0) ((rd_T50 l0 x8_2).f1) ((rd_T50 l0 x8_2).f2) ((rd_T50 l0 x8_2).f3) ((rd_T50 l0 x8_2).f4) ((rd_T50 l1 x9_2).f0) ((rd_T50 l1 x9_2).f1) ((rd_T50 l1 x9_2).f2) ((rd_T50 l1 x9_2).f3) ((rd_T50 l1 x9_2).f4) t116 _ A16.out).mono ?_
       rintro e w45 ⟨rfl, hb⟩
       refine ⟨_, rfl, ?_⟩
       have n0_ := aS (Kd.N_below (by exact nel <| HO_6.out) hb)
       have n1_ := aS (Kd.R_below (by exact rel <| HO_7.out) hb)
       have n2_ := aS (below_step (by first | exact bel HB.out | exact HB.out) hb)
       clear HO_6
       clear HO_7
       clear HB
       have HO_6 := n0_
       have HO_7 := n1_
       have HB := n2_
       clear n0_ n1_ n2_
       (try clear hb)
       (try clear hb2)
       (try clear hk)
       (try clear hi)
       refine hK.out _ _ ⟨(hup HB.out hw114_0), (hup HB.out hw114_1), (hup HB.out hw114_2), (hup HB.out hw114_3), (hup HB.out hw114_4), (hup HB.out hw115_0), (hup HB.out hw115_1), (hup HB.out hw115_2), (hup HB.out hw115_3), (hup HB.out hw115_4)⟩ (fun hHeld => ?_)
       clear hK K
       refine norm_ (a' := ?_) ?_ ?_
       rotate_left
       ·show Act.put _ (some 41) _ = _
        simp only [Act.put, sA, sZ, sS, i64_w, i32_w]
        rfl
       refine pure_ (i := 9) (N := some 10) (v := ?_) (a' := ?_) (bs 10 1023) rfl rfl (any_of HT_.out (by kernel_rfl)) (fun _ _ _ h => h) (Or.inl ⟨by rfl, ?_⟩) ?_ ?_
       rotate_left
       ·intro w'
        go_simp
        with_reducible rfl
       rotate_left
       ·simp only [Act.put, sA, sZ, sS, i64_w, i32_w]
        rfl
       refine done_ (done_of HT_.out (by kernel_rfl)) ?_
       try go_wp2
       have n0_ := aS (Kd.N_drew HO_6.out)
       have n1_ := aS (Kd.R_drew HO_7.out)
       have n2_ := aS (below_drew1 HB.out)
       clear HO_6
       clear HO_7
       clear HB
       have HO_6 := n0_
       have HO_7 := n1_
       have HB := n2_
       clear n0_ n1_ n2_
       obtain ⟨Ao47, co47, eo47⟩ := Kd.N_slice HO_6.out
       (first | subst eo47 | (injection eo47 with f1_ f2_ f3_; have f4_ := f1_.symm; have f5_ := f3_.symm; clear f1_ f2_ f3_; subst f4_; subst f5_))
       have p117 : 0 ≤ (x8_2 : Int) := of_decide_eq_true (by first | (with_reducible assumption) | assumption)
       have q117 : x8_2 < (t111.length : Int) := of_decide_eq_true (by first | (with_reducible assumption) | assumption)
       obtain ⟨ad117, A117_0, c117_0, e117, hx117_0, hl117_0, hi117_0⟩ := at_L6 (Kd.N_reads' HO_6.out).2.2 x8_2 p117 q117
       cases e117
       obtain ⟨ce117, hce117, hMe117, hcc117⟩ := Kd.N_get HO_6.out [] x8_2 p117 (by first | exact q117 | exact of_decide_eq_true (by first | (with_reducible assumption) | assumption) | (have e_ := (Kd.N_reads' HO_6.out).1; omega))
       obtain ⟨ua117_0, uc117_0, rfl, ul117_0, ge117_0⟩ := Kd.FK_slice_open hMe117
       have hv117_0 := hcc117 0 _ rfl
       rw [Nat.add_zero, show ((Kd.slice 3 (Kd.int .i64))).sz = 1 from rfl, Nat.mul_one] at hv117_0
       replace hv117_0 := Option.some.inj (hv117_0.symm.trans hx117_0)
       injection hv117_0 with hva_ hvn_ hvc_
       rw [hva_] at ge117_0
       rw [hvc_] at ul117_0
       have HL117_0 := aS (show Kd.V (Kd.int .i64) 3 _ w.heap.size _ _ (rd_L6 t111 x8_2) from Kd.V_mk ul117_0 ge117_0)
       clear hva_ hvn_ hvc_ ge117_0 ul117_0
       clear hcc117 hce117
       have HR117_0 := aS hi117_0
       have HC117_0 := aS hl117_0
       clear hi117_0 hl117_0
       replace p117 := eq_true p117
       replace q117 := eq_true q117
       have p118 : 0 ≤ (x9_2 : Int) := of_decide_eq_true (by first | (with_reducible assumption) | assumption)
       have q118 : x9_2 < ((rd_L6 t111 x8_2).length : Int) := of_decide_eq_true (by first | (with_reducible assumption) | assumption)
       obtain ⟨ad118, e118, hx118_0⟩ := Kd.at_int (by repeat (first | (with_reducible exact HR117_0.out) | (with_reducible apply Kd.C_alloc) | (with_reducible apply Kd.C_drewN) | (with_reducible apply Kd.C_drew) | exact HR117_0.out)) x9_2 p118 q118
       cases e118
       replace p118 := eq_true p118
       replace q118 := eq_true q118
       have p120 : 0 ≤ ((ji20) : Int) := of_decide_eq_true (by first | (with_reducible assumption) | assumption)
       have q120 : (ji20) < (t111.length : Int) := of_decide_eq_true (by first | (with_reducible assumption) | assumption)
       obtain ⟨ad120, A120_0, c120_0, e120, hx120_0, hl120_0, hi120_0⟩ := at_L6 (Kd.N_reads' HO_6.out).2.2 (ji20) p120 q120
       obtain rfl : ad117 = ad120 := (by injection e120)
       obtain ⟨ce120, hce120, hMe120, hcc120⟩ := Kd.N_get HO_6.out [] (ji20) p120 (by first | exact q120 | exact of_decide_eq_true (by first | (with_reducible assumption) | assumption) | (have e_ := (Kd.N_reads' HO_6.out).1; omega))
       obtain ⟨ua120_0, uc120_0, rfl, ul120_0, ge120_0⟩ := Kd.FK_slice_open hMe120
       have hv120_0 := hcc120 0 _ rfl
       rw [Nat.add_zero, show ((Kd.slice 3 (Kd.int .i64))).sz = 1 from rfl, Nat.mul_one] at hv120_0
       replace hv120_0 := Option.some.inj (hv120_0.symm.trans hx120_0)
       injection hv120_0 with hva_ hvn_ hvc_
       rw [hva_] at ge120_0
       rw [hvc_] at ul120_0
       have HL120_0 := aS (show Kd.V (Kd.int .i64) 3 _ w.heap.size _ _ (rd_L6 t111 (ji20)) from Kd.V_mk ul120_0 ge120_0)
       clear hva_ hvn_ hvc_ ge120_0 ul120_0
       clear hcc120 hce120
       have HR120_0 := aS hi120_0
       have HC120_0 := aS hl120_0
       clear hi120_0 hl120_0
       replace p120 := eq_true p120
       replace q120 := eq_true q120
       have p121 : 0 ≤ ((ji23) : Int) := of_decide_eq_true (by first | (with_reducible assumption) | assumption)
       have q121 : (ji23) < ((rd_L6 t111 (ji20)).length : Int) := of_decide_eq_true (by first | (with_reducible assumption) | assumption)
       obtain ⟨ad121, e121, hx121_0⟩ := Kd.at_int (by repeat (first | (with_reducible exact HR120_0.out) | (with_reducible apply Kd.C_alloc) | (with_reducible apply Kd.C_drewN) | (with_reducible apply Kd.C_drew) | exact HR120_0.out)) (ji23) p121 q121
       cases e121
       replace p121 := eq_true p121
       replace q121 := eq_true q121
       refine start_ (n := 20) (S := fun w' => w'.cell? (ad117.add (x8_2).toNat) = some (.slice (some ad118) (rd_L6 t111 x8_2).length c117_0) ∧ w'.cell? (ad118.add (x9_2).toNat) = some (.int .i64 (rd (rd_L6 t111 x8_2) x9_2)) ∧ w'.cell? (ad117.add ((ji20)).toNat) = some (.slice (some ad121) (rd_L6 t111 (ji20)).length c120_0) ∧ w'.cell? (ad121.add ((ji23)).toNat) = some (.int .i64 (rd (rd_L6 t111 (ji20)) (ji23)))) (ds := []) #[false, false, false, false, false, false, false, false, false, false, false, false, false, false, false, false, false, false, false, false] (by kernel_rfl) rfl rfl ⟨hx117_0, hx118_0, hx120_0, hx121_0⟩ (fun hHeld => ?_); refine with_tabW compare_Script.tab8 compare_Script.bits8 (fun HT_ HW_ => ?_)
       generalize w45.drew = w46 at HO_6 HO_7 HB HL117_0 HL120_0 HR117_0 HR120_0 hx117_0 hx118_0 hx120_0 hx121_0 hHeld ⊢
       refine pure_ (i := 0) (N := some 42) (v := ?_) (a' := ?_) (bs 20 1) rfl rfl (any_of HT_.out (by kernel_rfl)) (fun _ _ _ h => h) (Or.inl ⟨by rfl, ?_⟩) ?_ ?_
       rotate_left
       ·intro w'
        go_simp
        with_reducible rfl
       rotate_left
       ·simp only [Act.put, sA, sZ, sS, i64_w, i32_w]
        rfl
       refine pure_ (i := 1) (N := some 43) (v := ?_) (a' := ?_) (bs 20 3) rfl rfl (any_of HT_.out (by kernel_rfl)) (fun _ _ _ h => h) (Or.inl ⟨by rfl, ?_⟩) ?_ ?_
       rotate_left
       ·intro w'
        go_simp
        with_reducible rfl
       rotate_left
       ·simp only [Act.put, sA, sZ, sS, i64_w, i32_w]
        rfl
       refine pure_ (i := 2) (N := some 44) (v := ?_) (a' := ?_) (bs 20 7) rfl rfl (any_of HT_.out (by kernel_rfl)) (fun _ _ _ h => h) (Or.inl ⟨by rfl, ?_⟩) ?_ ?_
       rotate_left
       ·intro w'
        go_simp
        with_reducible rfl
       rotate_left
       ·simp only [Act.put, sA, sZ, sS, i64_w, i32_w]
        rfl
       refine pure_ (i := 4) (N := some 46) (v := ?_) (a' := ?_) (bs 20 23) rfl rfl (any_of HT_.out (by kernel_rfl)) (fun _ _ _ h => h) (Or.inl ⟨by rfl, ?_⟩) ?_ ?_
       rotate_left
       ·intro w'
        go_simp
        with_reducible rfl
       rotate_left
       ·simp only [Act.put, sA, sZ, sS, i64_w, i32_w]
        rfl
       refine pure_ (i := 7) (N := some 49) (v := ?_) (a' := ?_) (bs 20 151) rfl rfl (any_of HT_.out (by kernel_rfl)) (fun _ _ _ h => h) (Or.inl ⟨by rfl, ?_⟩) ?_ ?_
       rotate_left
       ·intro w'
        go_simp
        with_reducible rfl
       rotate_left
       ·simp only [Act.put, sA, sZ, sS, i64_w, i32_w]
        rfl
       refine pure_ (i := 9) (N := some 51) (v := ?_) (a' := ?_) (bs 20 663) rfl rfl (any_of HT_.out (by kernel_rfl)) (fun _ _ _ h => h) (Or.inl ⟨by rfl, ?_⟩) ?_ ?_
       rotate_left
       ·intro w'
        go_simp
        with_reducible rfl
       rotate_left
       ·simp only [Act.put, sA, sZ, sS, i64_w, i32_w]
        rfl
       refine pure_ (i := 10) (N := some 52) (v := ?_) (a' := ?_) (bs 20 1687) rfl rfl (any_of HT_.out (by kernel_rfl)) (fun _ _ _ h => h) (Or.inl ⟨by rfl, ?_⟩) ?_ ?_
       rotate_left
       ·intro w'
        go_simp
        with_reducible rfl
       rotate_left
       ·simp only [Act.put, sA, sZ, sS, i64_w, i32_w]
        rfl
       refine pure_ (i := 11) (N := some 53) (v := ?_) (a' := ?_) (bs 20 3735) rfl rfl (any_of HT_.out (by kernel_rfl)) (fun _ _ _ h => h) (Or.inl ⟨by rfl, ?_⟩) ?_ ?_
       rotate_left
       ·intro w'
        go_simp
        with_reducible rfl
       rotate_left
       ·simp only [Act.put, sA, sZ, sS, i64_w, i32_w]
        rfl
       refine pure_ (i := 12) (N := some 54) (v := ?_) (a' := ?_) (bs 20 7831) rfl rfl (any_of HT_.out (by kernel_rfl)) (fun _ _ _ h => h) (Or.inl ⟨by rfl, ?_⟩) ?_ ?_
       rotate_left
       ·intro w'
        go_simp
        with_reducible rfl
       rotate_left
       ·simp only [Act.put, sA, sZ, sS, i64_w, i32_w]
        rfl
       refine pure_ (i := 14) (N := some 56) (v := ?_) (a' := ?_) (bs 20 24215) rfl rfl (any_of HT_.out (by kernel_rfl)) (fun _ _ _ h => h) (Or.inl ⟨by rfl, ?_⟩) ?_ ?_
       rotate_left
       ·intro w'
        go_simp
        with_reducible rfl
       rotate_left
       ·simp only [Act.put, sA, sZ, sS, i64_w, i32_w]
        rfl
       refine pure_ (i := 15) (N := some 57) (v := ?_) (a' := ?_) (bs 20 56983) rfl rfl (any_of HT_.out (by kernel_rfl)) (fun _ _ _ h => h) (Or.inl ⟨by rfl, ?_⟩) ?_ ?_
       rotate_left
       ·intro w'
        go_simp
        with_reducible rfl
       rotate_left
       ·simp only [Act.put, sA, sZ, sS, i64_w, i32_w]
        rfl
       refine take_ (i := 3) (N := some 45) (v := ?_) (a' := ?_) (bs 20 56991) rfl rfl (take_ofW HT_.out HW_.out (by kernel_rfl)) (fun _ _ _ h => h) (Or.inl ⟨by rfl, ?_⟩) hHeld ?_ ?_
       rotate_left
       ·rintro w' ⟨s0, s1, s2, s3⟩
        go_simp
        with_reducible rfl
       rotate_left
       ·simp only [Act.put, sA, sZ, sS, i64_w, i32_w]
        rfl
       refine pure_ (i := 5) (N := some 47) (v := ?_) (a' := ?_) (bs 20 57023) rfl rfl (any_of HT_.out (by kernel_rfl)) (fun _ _ _ h => h) (Or.inl ⟨by rfl, ?_⟩) ?_ ?_
       rotate_left
       ·intro w'
        go_simp
        with_reducible rfl
       rotate_left
       ·simp only [Act.put, sA, sZ, sS, i64_w, i32_w]
        rfl
       refine take_ (i := 6) (N := some 48) (v := ?_) (a' := ?_) (bs 20 57087) rfl rfl (take_ofW HT_.out HW_.out (by kernel_rfl)) (fun _ _ _ h => h) (Or.inl ⟨by rfl, ?_⟩) hHeld ?_ ?_
       rotate_left
       ·rintro w' ⟨s0, s1, s2, s3⟩
        go_simp
        with_reducible rfl
       rotate_left
       ·simp only [Act.put, sA, sZ, sS, i64_w, i32_w]
        rfl
       refine take_ (i := 13) (N := some 55) (v := ?_) (a' := ?_) (bs 20 65279) rfl rfl (take_ofW HT_.out HW_.out (by kernel_rfl)) (fun _ _ _ h => h) (Or.inl ⟨by rfl, ?_⟩) hHeld ?_ ?_
       rotate_left
       ·rintro w' ⟨s0, s1, s2, s3⟩
        go_simp
        with_reducible rfl
       rotate_left
       ·simp only [Act.put, sA, sZ, sS, i64_w, i32_w]
        rfl
       refine pure_ (i := 16) (N := some 58) (v := ?_) (a' := ?_) (bs 20 130815) rfl rfl (any_of HT_.out (by kernel_rfl)) (fun _ _ _ h => h) (Or.inl ⟨by rfl, ?_⟩) ?_ ?_
       rotate_left
       ·intro w'
        go_simp
        with_reducible rfl
       rotate_left
       ·simp only [Act.put, sA, sZ, sS, i64_w, i32_w]
        rfl
       refine take_ (i := 17) (N := some 59) (v := ?_) (a' := ?_) (bs 20 261887) rfl rfl (take_ofW HT_.out HW_.out (by kernel_rfl)) (fun _ _ _ h => h) (Or.inl ⟨by rfl, ?_⟩) hHeld ?_ ?_
       rotate_left
       ·rintro w' ⟨s0, s1, s2, s3⟩
        go_simp
        with_reducible rfl
       rotate_left
       ·simp only [Act.put, sA, sZ, sS, i64_w, i32_w]
        rfl
       refine one_ (i := 8) (N := some 50) (bs 20 262143) rfl rfl (one_of HT_.out (by kernel_rfl)) (by decide) (fun K hK => ?_)
       refine goes_ Try.func30 (by kernel_rfl) rfl #[.int .i64 t116] (by rfl) rfl rfl (by (try simp only [List.map_toArray, List.map_cons, List.map_nil]); first | done | rfl | (simp only [List.length_drop, List.length_take]; rfl)) ?_
       with_reducible refine (compare_Cost.calls kj7 t116 t119 _ A19.out).mono ?_
       rintro e w' ⟨rfl, ⟨nd, rfl⟩⟩
       refine ⟨_, rfl, ?_⟩
       refine hK.out _ _ ⟨hHeld.1, hHeld.2.1, hHeld.2.2.1, hHeld.2.2.2⟩ (fun hHeld => ?_)
       clear hK K
       refine norm_ (a' := ?_) ?_ ?_
       rotate_left
       ·show Act.put _ (some 50) _ = _
        simp only [Act.put, sA, sZ, sS, i64_w, i32_w]
        rfl
       refine pure_ (i := 18) (N := some 60) (v := ?_) (a' := ?_) (bs 20 524287) rfl rfl (any_of HT_.out (by kernel_rfl)) (fun _ _ _ h => h) (Or.inl ⟨by rfl, ?_⟩) ?_ ?_
       rotate_left
       ·intro w'
        go_simp
        with_reducible rfl
       rotate_left
       ·simp only [Act.put, sA, sZ, sS, i64_w, i32_w]
        rfl
       refine pure_ (i := 19) (N := some 61) (v := ?_) (a' := ?_) (bs 20 1048575) rfl rfl (any_of HT_.out (by kernel_rfl)) (fun _ _ _ h => h) (Or.inl ⟨by rfl, ?_⟩) ?_ ?_
       rotate_left
       ·intro w'
        go_simp
        with_reducible rfl
       rotate_left
       ·simp only [Act.put, sA, sZ, sS, i64_w, i32_w]
        rfl
       refine done_ (done_of HT_.out (by kernel_rfl)) ?_
       try go_wp2
       go_meet
       case rel => exact ⟨_, (x7_2), (x8_2), (x9_2), (by first | rfl | (simp; done) | (simp [*]; done)), (by first | rfl | (simp; done) | (simp [*]; done)), H', ⟨by have := HJ2.out; have := HK2.out; have := HJ7.out; first | omega | exact Nat.le_refl _⟩, ⟨by exact nel <| HO_6.out⟩, ⟨by exact rel <| HO_7.out⟩, ⟨by first | exact bel HB.out | exact HB.out⟩⟩
      rw [if_pos c26] at H
      have c26b0 : ((rd (rd_L6 t111 x8_2) x9_2) == (wrap64 (t119 + (rd (rd_L6 t111 (ji20)) (ji23))))) = true := beq_iff_eq.mpr c26
      have c26b1 : ((rd (rd_L6 t111 x8_2) x9_2) != (wrap64 (t119 + (rd (rd_L6 t111 (ji20)) (ji23))))) = false := bne_eq_false_iff_eq.mpr c26
      clear c26
      by_cases c27 : t116 = 1
      rotate_left
      ·rw [if_neg c27] at H
       have c27b0 : (t116 == 1) = false := beq_eq_false_iff_ne.mpr c27
       have c27b1 : (t116 != 1) = true := bne_iff_ne.mpr c27
       by_cases c36 : x7_2.length < 3518437208883
       rotate_left
       ·rw [if_neg c36] at H
        exact absurd H (by simp)
       rw [if_pos c36] at H
       have LMc36 := aS c36
       clear c36
       obtain ⟨y127, hy127⟩ : ∃ y_ : List (S63), y_ = (x7_2 ++ [(⟨t116, (⟨(rd_T50 l1 x9_2).f0, (rd_T50 l1 x9_2).f1, (rd_T50 l1 x9_2).f2, (rd_T50 l1 x9_2).f3, (rd_T50 l1 x9_2).f4⟩ : S50)⟩ : S63)]) := ⟨_, rfl⟩
       replace H : (compare_Script.l0 kj7 l0 l1 t111 y127 ji20 ji23) = some (r1, r2) := by first | (rw [hy127]; with_reducible exact H) | (have H2_ := (Option.bind_some _ _).symm.trans H; rw [hy127]; with_reducible exact H2_) | (have H2_ := (Option.bind_some _ _).symm.trans H; with_reducible exact H2_) | with_reducible exact H | (rw [hy127]; exact H) | exact H
       have Ny127 := aS hy127
       clear hy127
       have H' := aS H
       clear H
       try go_wp2
       have n0_ := aS (Kd.N_drew HO_6.out)
       have n1_ := aS (Kd.R_drew HO_7.out)
       have n2_ := aS (below_drew1 HB.out)
       clear HO_6
       clear HO_7
       clear HB
       have HO_6 := n0_
       have HO_7 := n1_
       have HB := n2_
       clear n0_ n1_ n2_
       have p114 : 0 ≤ (x8_2 : Int) := of_decide_eq_true (by first | (with_reducible assumption) | assumption)
       have q114 : x8_2 < (l0.length : Int) := of_decide_eq_true (by first | (with_reducible assumption) | assumption)
       obtain ⟨ad114, e114, hx114_0, hx114_1, hx114_2, hx114_3, hx114_4⟩ := at_T50 HR0.out x8_2 p114 q114
       have hw114_4 := hx114_4
       have hw114_3 := hx114_3
       have hw114_2 := hx114_2
       have hw114_1 := hx114_1
       have hw114_0 := hx114_0
       cases e114
       replace hx114_0 := hup HB.out hx114_0
       replace hx114_1 := hup HB.out hx114_1
       replace hx114_2 := hup HB.out hx114_2
       replace hx114_3 := hup HB.out hx114_3
       replace hx114_4 := hup HB.out hx114_4
       replace p114 := eq_true p114
       replace q114 := eq_true q114
       have p115 : 0 ≤ (x9_2 : Int) := of_decide_eq_true (by first | (with_reducible assumption) | assumption)
       have q115 : x9_2 < (l1.length : Int) := of_decide_eq_true (by first | (with_reducible assumption) | assumption)
       obtain ⟨ad115, e115, hx115_0, hx115_1, hx115_2, hx115_3, hx115_4⟩ := at_T50 HR1.out x9_2 p115 q115
       have hw115_4 := hx115_4
       have hw115_3 := hx115_3
       have hw115_2 := hx115_2
       have hw115_1 := hx115_1
       have hw115_0 := hx115_0
       cases e115
       replace hx115_0 := hup HB.out hx115_0
       replace hx115_1 := hup HB.out hx115_1
       replace hx115_2 := hup HB.out hx115_2
       replace hx115_3 := hup HB.out hx115_3
       replace hx115_4 := hup HB.out hx115_4
       replace p115 := eq_true p115
       replace q115 := eq_true q115
       refine start_ (n := 10) (S := fun w' => w'.cell? (ad114.add ((x8_2).toNat * 5)) = some (.string ((rd_T50 l0 x8_2).f0)) ∧ w'.cell? ⟨(ad114.add ((x8_2).toNat * 5)).block, (ad114.add ((x8_2).toNat * 5)).off + 1, none⟩ = some (.int .i64 ((rd_T50 l0 x8_2).f1)) ∧ w'.cell? ⟨(ad114.add ((x8_2).toNat * 5)).block, (ad114.add ((x8_2).toNat * 5)).off + 2, none⟩ = some (.bool ((rd_T50 l0 x8_2).f2)) ∧ w'.cell? ⟨(ad114.add ((x8_2).toNat * 5)).block, (ad114.add ((x8_2).toNat * 5)).off + 3, none⟩ = some (.bool ((rd_T50 l0 x8_2).f3)) ∧ w'.cell? ⟨(ad114.add ((x8_2).toNat * 5)).block, (ad114.add ((x8_2).toNat * 5)).off + 4, none⟩ = some (.bool ((rd_T50 l0 x8_2).f4)) ∧ w'.cell? (ad115.add ((x9_2).toNat * 5)) = some (.string ((rd_T50 l1 x9_2).f0)) ∧ w'.cell? ⟨(ad115.add ((x9_2).toNat * 5)).block, (ad115.add ((x9_2).toNat * 5)).off + 1, none⟩ = some (.int .i64 ((rd_T50 l1 x9_2).f1)) ∧ w'.cell? ⟨(ad115.add ((x9_2).toNat * 5)).block, (ad115.add ((x9_2).toNat * 5)).off + 2, none⟩ = some (.bool ((rd_T50 l1 x9_2).f2)) ∧ w'.cell? ⟨(ad115.add ((x9_2).toNat * 5)).block, (ad115.add ((x9_2).toNat * 5)).off + 3, none⟩ = some (.bool ((rd_T50 l1 x9_2).f3)) ∧ w'.cell? ⟨(ad115.add ((x9_2).toNat * 5)).block, (ad115.add ((x9_2).toNat * 5)).off + 4, none⟩ = some (.bool ((rd_T50 l1 x9_2).f4))) (ds := []) #[false, false, false, false, false, false, false, false, false, false] (by kernel_rfl) rfl rfl ⟨(hup HB.out hw114_0), (hup HB.out hw114_1), (hup HB.out hw114_2), (hup HB.out hw114_3), (hup HB.out hw114_4), (hup HB.out hw115_0), (hup HB.out hw115_1), (hup HB.out hw115_2), (hup HB.out hw115_3), (hup HB.out hw115_4)⟩ (fun hHeld => ?_); refine with_tabW compare_Script.tab7 compare_Script.bits7 (fun HT_ HW_ => ?_)
       generalize wc.drew = w37 at HO_6 HO_7 HB hx114_0 hx114_1 hx114_2 hx114_3 hx114_4 hx115_0 hx115_1 hx115_2 hx115_3 hx115_4 hHeld ⊢
       refine pure_ (i := 0) (N := some 33) (v := ?_) (a' := ?_) (bs 10 1) rfl rfl (any_of HT_.out (by kernel_rfl)) (fun _ _ _ h => h) (Or.inl ⟨by rfl, ?_⟩) ?_ ?_
       rotate_left
       ·intro w'
        go_simp
        with_reducible rfl
       rotate_left
       ·simp only [Act.put, sA, sZ, sS, i64_w, i32_w]
        rfl
       refine pure_ (i := 1) (N := some 34) (v := ?_) (a' := ?_) (bs 10 3) rfl rfl (any_of HT_.out (by kernel_rfl)) (fun _ _ _ h => h) (Or.inl ⟨by rfl, ?_⟩) ?_ ?_
       rotate_left
       ·intro w'
        go_simp
        with_reducible rfl
       rotate_left
       ·simp only [Act.put, sA, sZ, sS, i64_w, i32_w]
        rfl
       refine pure_ (i := 2) (N := some 35) (v := ?_) (a' := ?_) (bs 10 7) rfl rfl (any_of HT_.out (by kernel_rfl)) (fun _ _ _ h => h) (Or.inl ⟨by rfl, ?_⟩) ?_ ?_
       rotate_left
       ·intro w'
        go_simp
        with_reducible rfl
       rotate_left
       ·simp only [Act.put, sA, sZ, sS, i64_w, i32_w]
        rfl
       refine pure_ (i := 4) (N := some 37) (v := ?_) (a' := ?_) (bs 10 23) rfl rfl (any_of HT_.out (by kernel_rfl)) (fun _ _ _ h => h) (Or.inl ⟨by rfl, ?_⟩) ?_ ?_
       rotate_left
       ·intro w'
        go_simp
        with_reducible rfl
       rotate_left
       ·simp only [Act.put, sA, sZ, sS, i64_w, i32_w]
        rfl
       refine pure_ (i := 5) (N := some 38) (v := ?_) (a' := ?_) (bs 10 55) rfl rfl (any_of HT_.out (by kernel_rfl)) (fun _ _ _ h => h) (Or.inl ⟨by rfl, ?_⟩) ?_ ?_
       rotate_left
       ·intro w'
        go_simp
        with_reducible rfl
       rotate_left
       ·simp only [Act.put, sA, sZ, sS, i64_w, i32_w]
        rfl
       refine pure_ (i := 6) (N := some 39) (v := ?_) (a' := ?_) (bs 10 119) rfl rfl (any_of HT_.out (by kernel_rfl)) (fun _ _ _ h => h) (Or.inl ⟨by rfl, ?_⟩) ?_ ?_
       rotate_left
       ·intro w'
        go_simp
        with_reducible rfl
       rotate_left
       ·simp only [Act.put, sA, sZ, sS, i64_w, i32_w]
        rfl
       refine take_ (i := 3) (N := some 36) (v := ?_) (a' := ?_) (bs 10 127) rfl rfl (take_ofW HT_.out HW_.out (by kernel_rfl)) (fun _ _ _ h => h) (Or.inl ⟨by rfl, ?_⟩) hHeld ?_ ?_
       rotate_left
       ·rintro w' ⟨s0, s1, s2, s3, s4, s5, s6, s7, s8, s9⟩
        go_simp
        with_reducible rfl
       rotate_left
       ·simp only [Act.put, sA, sZ, sS, i64_w, i32_w]
        rfl
       refine take_ (i := 7) (N := some 40) (v := ?_) (a' := ?_) (bs 10 255) rfl rfl (take_ofW HT_.out HW_.out (by kernel_rfl)) (fun _ _ _ h => h) (Or.inl ⟨by rfl, ?_⟩) hHeld ?_ ?_
       rotate_left
       ·rintro w' ⟨s0, s1, s2, s3, s4, s5, s6, s7, s8, s9⟩
        go_simp
        with_reducible rfl
       rotate_left
       ·simp only [Act.put, sA, sZ, sS, i64_w, i32_w]
        rfl
       refine one_ (i := 8) (N := some 41) (bs 10 511) rfl rfl (one_of HT_.out (by kernel_rfl)) (by decide) (fun K hK => ?_)
       refine goes_ Try.func35 (by kernel_rfl) rfl #[.agg #[.string ((rd_T50 l0 x8_2).f0), .int .i64 ((rd_T50 l0 x8_2).f1), .bool ((rd_T50 l0 x8_2).f2), .bool ((rd_T50 l0 x8_2).f3), .bool ((rd_T50 l0 x8_2).f4)], .agg #[.string ((rd_T50 l1 x9_2).f0), .int .i64 ((rd_T50 l1 x9_2).f1), .bool ((rd_T50 l1 x9_2).f2), .bool ((rd_T50 l1 x9_2).f3), .bool ((rd_T50 l1 x9_2).f4)]] (by rfl) rfl rfl (by (try simp only [List.map_toArray, List.map_cons, List.map_nil]); first | done | rfl | (simp only [List.length_drop, List.length_take]; rfl)) ?_
       with_reducible refine (compare_taking.calls ((rd_T50 l0 x8_2).f0) ((rd_T50 l0 x8_2).f1) ((rd_T50 l0 x8_2).f2) ((rd_T50 l0 x8_2).f3) ((rd_T50 l0 x8_2).f4) ((rd_T50 l1 x9_2).f0) ((rd_T50 l1 x9_2).f1) ((rd_T50 l1 x9_2).f2) ((rd_T50 l1 x9_2).f3) ((rd_T50 l1 x9_2).f4) t116 _ A16.out).mono ?_
       rintro e w38 ⟨rfl, hb⟩
       refine ⟨_, rfl, ?_⟩
       have n0_ := aS (Kd.N_below (by exact nel <| HO_6.out) hb)
       have n1_ := aS (Kd.R_below (by exact rel <| HO_7.out) hb)
       have n2_ := aS (below_step (by first | exact bel HB.out | exact HB.out) hb)
       clear HO_6
       clear HO_7
       clear HB
       have HO_6 := n0_
       have HO_7 := n1_
       have HB := n2_
       clear n0_ n1_ n2_
       (try clear hb)
       (try clear hb2)
       (try clear hk)
       (try clear hi)
       refine hK.out _ _ ⟨(hup HB.out hw114_0), (hup HB.out hw114_1), (hup HB.out hw114_2), (hup HB.out hw114_3), (hup HB.out hw114_4), (hup HB.out hw115_0), (hup HB.out hw115_1), (hup HB.out hw115_2), (hup HB.out hw115_3), (hup HB.out hw115_4)⟩ (fun hHeld => ?_)
       clear hK K
       refine norm_ (a' := ?_) ?_ ?_
       rotate_left
       ·show Act.put _ (some 41) _ = _
        simp only [Act.put, sA, sZ, sS, i64_w, i32_w]
        rfl
       refine pure_ (i := 9) (N := some 10) (v := ?_) (a' := ?_) (bs 10 1023) rfl rfl (any_of HT_.out (by kernel_rfl)) (fun _ _ _ h => h) (Or.inl ⟨by rfl, ?_⟩) ?_ ?_
       rotate_left
       ·intro w'
        go_simp
        with_reducible rfl
       rotate_left
       ·simp only [Act.put, sA, sZ, sS, i64_w, i32_w]
        rfl
       refine done_ (done_of HT_.out (by kernel_rfl)) ?_
       try go_wp2
       have n0_ := aS (Kd.N_drew HO_6.out)
       have n1_ := aS (Kd.R_drew HO_7.out)
       have n2_ := aS (below_drew1 HB.out)
       clear HO_6
       clear HO_7
       clear HB
       have HO_6 := n0_
       have HO_7 := n1_
       have HB := n2_
       clear n0_ n1_ n2_
       obtain ⟨Ao40, co40, eo40⟩ := Kd.N_slice HO_6.out
       (first | subst eo40 | (injection eo40 with f1_ f2_ f3_; have f4_ := f1_.symm; have f5_ := f3_.symm; clear f1_ f2_ f3_; subst f4_; subst f5_))
       have p117 : 0 ≤ (x8_2 : Int) := of_decide_eq_true (by first | (with_reducible assumption) | assumption)
       have q117 : x8_2 < (t111.length : Int) := of_decide_eq_true (by first | (with_reducible assumption) | assumption)
       obtain ⟨ad117, A117_0, c117_0, e117, hx117_0, hl117_0, hi117_0⟩ := at_L6 (Kd.N_reads' HO_6.out).2.2 x8_2 p117 q117
       cases e117
       obtain ⟨ce117, hce117, hMe117, hcc117⟩ := Kd.N_get HO_6.out [] x8_2 p117 (by first | exact q117 | exact of_decide_eq_true (by first | (with_reducible assumption) | assumption) | (have e_ := (Kd.N_reads' HO_6.out).1; omega))
       obtain ⟨ua117_0, uc117_0, rfl, ul117_0, ge117_0⟩ := Kd.FK_slice_open hMe117
       have hv117_0 := hcc117 0 _ rfl
       rw [Nat.add_zero, show ((Kd.slice 3 (Kd.int .i64))).sz = 1 from rfl, Nat.mul_one] at hv117_0
       replace hv117_0 := Option.some.inj (hv117_0.symm.trans hx117_0)
       injection hv117_0 with hva_ hvn_ hvc_
       rw [hva_] at ge117_0
       rw [hvc_] at ul117_0
       have HL117_0 := aS (show Kd.V (Kd.int .i64) 3 _ w.heap.size _ _ (rd_L6 t111 x8_2) from Kd.V_mk ul117_0 ge117_0)
       clear hva_ hvn_ hvc_ ge117_0 ul117_0
       clear hcc117 hce117
       have HR117_0 := aS hi117_0
       have HC117_0 := aS hl117_0
       clear hi117_0 hl117_0
       replace p117 := eq_true p117
       replace q117 := eq_true q117
       have p118 : 0 ≤ (x9_2 : Int) := of_decide_eq_true (by first | (with_reducible assumption) | assumption)
       have q118 : x9_2 < ((rd_L6 t111 x8_2).length : Int) := of_decide_eq_true (by first | (with_reducible assumption) | assumption)
       obtain ⟨ad118, e118, hx118_0⟩ := Kd.at_int (by repeat (first | (with_reducible exact HR117_0.out) | (with_reducible apply Kd.C_alloc) | (with_reducible apply Kd.C_drewN) | (with_reducible apply Kd.C_drew) | exact HR117_0.out)) x9_2 p118 q118
       cases e118
       replace p118 := eq_true p118
       replace q118 := eq_true q118
       have p120 : 0 ≤ ((ji20) : Int) := of_decide_eq_true (by first | (with_reducible assumption) | assumption)
       have q120 : (ji20) < (t111.length : Int) := of_decide_eq_true (by first | (with_reducible assumption) | assumption)
       obtain ⟨ad120, A120_0, c120_0, e120, hx120_0, hl120_0, hi120_0⟩ := at_L6 (Kd.N_reads' HO_6.out).2.2 (ji20) p120 q120
       obtain rfl : ad117 = ad120 := (by injection e120)
       obtain ⟨ce120, hce120, hMe120, hcc120⟩ := Kd.N_get HO_6.out [] (ji20) p120 (by first | exact q120 | exact of_decide_eq_true (by first | (with_reducible assumption) | assumption) | (have e_ := (Kd.N_reads' HO_6.out).1; omega))
       obtain ⟨ua120_0, uc120_0, rfl, ul120_0, ge120_0⟩ := Kd.FK_slice_open hMe120
       have hv120_0 := hcc120 0 _ rfl
       rw [Nat.add_zero, show ((Kd.slice 3 (Kd.int .i64))).sz = 1 from rfl, Nat.mul_one] at hv120_0
       replace hv120_0 := Option.some.inj (hv120_0.symm.trans hx120_0)
       injection hv120_0 with hva_ hvn_ hvc_
       rw [hva_] at ge120_0
       rw [hvc_] at ul120_0
       have HL120_0 := aS (show Kd.V (Kd.int .i64) 3 _ w.heap.size _ _ (rd_L6 t111 (ji20)) from Kd.V_mk ul120_0 ge120_0)
       clear hva_ hvn_ hvc_ ge120_0 ul120_0
       clear hcc120 hce120
       have HR120_0 := aS hi120_0
       have HC120_0 := aS hl120_0
       clear hi120_0 hl120_0
       replace p120 := eq_true p120
       replace q120 := eq_true q120
       have p121 : 0 ≤ ((ji23) : Int) := of_decide_eq_true (by first | (with_reducible assumption) | assumption)
       have q121 : (ji23) < ((rd_L6 t111 (ji20)).length : Int) := of_decide_eq_true (by first | (with_reducible assumption) | assumption)
       obtain ⟨ad121, e121, hx121_0⟩ := Kd.at_int (by repeat (first | (with_reducible exact HR120_0.out) | (with_reducible apply Kd.C_alloc) | (with_reducible apply Kd.C_drewN) | (with_reducible apply Kd.C_drew) | exact HR120_0.out)) (ji23) p121 q121
       cases e121
       replace p121 := eq_true p121
       replace q121 := eq_true q121
       refine start_ (n := 20) (S := fun w' => w'.cell? (ad117.add (x8_2).toNat) = some (.slice (some ad118) (rd_L6 t111 x8_2).length c117_0) ∧ w'.cell? (ad118.add (x9_2).toNat) = some (.int .i64 (rd (rd_L6 t111 x8_2) x9_2)) ∧ w'.cell? (ad117.add ((ji20)).toNat) = some (.slice (some ad121) (rd_L6 t111 (ji20)).length c120_0) ∧ w'.cell? (ad121.add ((ji23)).toNat) = some (.int .i64 (rd (rd_L6 t111 (ji20)) (ji23)))) (ds := []) #[false, false, false, false, false, false, false, false, false, false, false, false, false, false, false, false, false, false, false, false] (by kernel_rfl) rfl rfl ⟨hx117_0, hx118_0, hx120_0, hx121_0⟩ (fun hHeld => ?_); refine with_tabW compare_Script.tab8 compare_Script.bits8 (fun HT_ HW_ => ?_)
       generalize w38.drew = w39 at HO_6 HO_7 HB HL117_0 HL120_0 HR117_0 HR120_0 hx117_0 hx118_0 hx120_0 hx121_0 hHeld ⊢
       refine pure_ (i := 0) (N := some 42) (v := ?_) (a' := ?_) (bs 20 1) rfl rfl (any_of HT_.out (by kernel_rfl)) (fun _ _ _ h => h) (Or.inl ⟨by rfl, ?_⟩) ?_ ?_
       rotate_left
       ·intro w'
        go_simp
        with_reducible rfl
       rotate_left
       ·simp only [Act.put, sA, sZ, sS, i64_w, i32_w]
        rfl
       refine pure_ (i := 1) (N := some 43) (v := ?_) (a' := ?_) (bs 20 3) rfl rfl (any_of HT_.out (by kernel_rfl)) (fun _ _ _ h => h) (Or.inl ⟨by rfl, ?_⟩) ?_ ?_
       rotate_left
       ·intro w'
        go_simp
        with_reducible rfl
       rotate_left
       ·simp only [Act.put, sA, sZ, sS, i64_w, i32_w]
        rfl
       refine pure_ (i := 2) (N := some 44) (v := ?_) (a' := ?_) (bs 20 7) rfl rfl (any_of HT_.out (by kernel_rfl)) (fun _ _ _ h => h) (Or.inl ⟨by rfl, ?_⟩) ?_ ?_
       rotate_left
       ·intro w'
        go_simp
        with_reducible rfl
       rotate_left
       ·simp only [Act.put, sA, sZ, sS, i64_w, i32_w]
        rfl
       refine pure_ (i := 4) (N := some 46) (v := ?_) (a' := ?_) (bs 20 23) rfl rfl (any_of HT_.out (by kernel_rfl)) (fun _ _ _ h => h) (Or.inl ⟨by rfl, ?_⟩) ?_ ?_
       rotate_left
       ·intro w'
        go_simp
        with_reducible rfl
       rotate_left
       ·simp only [Act.put, sA, sZ, sS, i64_w, i32_w]
        rfl
       refine pure_ (i := 7) (N := some 49) (v := ?_) (a' := ?_) (bs 20 151) rfl rfl (any_of HT_.out (by kernel_rfl)) (fun _ _ _ h => h) (Or.inl ⟨by rfl, ?_⟩) ?_ ?_
       rotate_left
       ·intro w'
        go_simp
        with_reducible rfl
       rotate_left
       ·simp only [Act.put, sA, sZ, sS, i64_w, i32_w]
        rfl
       refine pure_ (i := 9) (N := some 51) (v := ?_) (a' := ?_) (bs 20 663) rfl rfl (any_of HT_.out (by kernel_rfl)) (fun _ _ _ h => h) (Or.inl ⟨by rfl, ?_⟩) ?_ ?_
       rotate_left
       ·intro w'
        go_simp
        with_reducible rfl
       rotate_left
       ·simp only [Act.put, sA, sZ, sS, i64_w, i32_w]
        rfl
       refine pure_ (i := 10) (N := some 52) (v := ?_) (a' := ?_) (bs 20 1687) rfl rfl (any_of HT_.out (by kernel_rfl)) (fun _ _ _ h => h) (Or.inl ⟨by rfl, ?_⟩) ?_ ?_
       rotate_left
       ·intro w'
        go_simp
        with_reducible rfl
       rotate_left
       ·simp only [Act.put, sA, sZ, sS, i64_w, i32_w]
        rfl
       refine pure_ (i := 11) (N := some 53) (v := ?_) (a' := ?_) (bs 20 3735) rfl rfl (any_of HT_.out (by kernel_rfl)) (fun _ _ _ h => h) (Or.inl ⟨by rfl, ?_⟩) ?_ ?_
       rotate_left
       ·intro w'
        go_simp
        with_reducible rfl
       rotate_left
       ·simp only [Act.put, sA, sZ, sS, i64_w, i32_w]
        rfl
       refine pure_ (i := 12) (N := some 54) (v := ?_) (a' := ?_) (bs 20 7831) rfl rfl (any_of HT_.out (by kernel_rfl)) (fun _ _ _ h => h) (Or.inl ⟨by rfl, ?_⟩) ?_ ?_
       rotate_left
       ·intro w'
        go_simp
        with_reducible rfl
       rotate_left
       ·simp only [Act.put, sA, sZ, sS, i64_w, i32_w]
        rfl
       refine pure_ (i := 14) (N := some 56) (v := ?_) (a' := ?_) (bs 20 24215) rfl rfl (any_of HT_.out (by kernel_rfl)) (fun _ _ _ h => h) (Or.inl ⟨by rfl, ?_⟩) ?_ ?_
       rotate_left
       ·intro w'
        go_simp
        with_reducible rfl
       rotate_left
       ·simp only [Act.put, sA, sZ, sS, i64_w, i32_w]
        rfl
       refine pure_ (i := 15) (N := some 57) (v := ?_) (a' := ?_) (bs 20 56983) rfl rfl (any_of HT_.out (by kernel_rfl)) (fun _ _ _ h => h) (Or.inl ⟨by rfl, ?_⟩) ?_ ?_
       rotate_left
       ·intro w'
        go_simp
        with_reducible rfl
       rotate_left
       ·simp only [Act.put, sA, sZ, sS, i64_w, i32_w]
        rfl
       refine take_ (i := 3) (N := some 45) (v := ?_) (a' := ?_) (bs 20 56991) rfl rfl (take_ofW HT_.out HW_.out (by kernel_rfl)) (fun _ _ _ h => h) (Or.inl ⟨by rfl, ?_⟩) hHeld ?_ ?_
       rotate_left
       ·rintro w' ⟨s0, s1, s2, s3⟩
        go_simp
        with_reducible rfl
       rotate_left
       ·simp only [Act.put, sA, sZ, sS, i64_w, i32_w]
        rfl
       refine pure_ (i := 5) (N := some 47) (v := ?_) (a' := ?_) (bs 20 57023) rfl rfl (any_of HT_.out (by kernel_rfl)) (fun _ _ _ h => h) (Or.inl ⟨by rfl, ?_⟩) ?_ ?_
       rotate_left
       ·intro w'
        go_simp
        with_reducible rfl
       rotate_left
       ·simp only [Act.put, sA, sZ, sS, i64_w, i32_w]
        rfl
       refine take_ (i := 6) (N := some 48) (v := ?_) (a' := ?_) (bs 20 57087) rfl rfl (take_ofW HT_.out HW_.out (by kernel_rfl)) (fun _ _ _ h => h) (Or.inl ⟨by rfl, ?_⟩) hHeld ?_ ?_
       rotate_left
       ·rintro w' ⟨s0, s1, s2, s3⟩
        go_simp
        with_reducible rfl
       rotate_left
       ·simp only [Act.put, sA, sZ, sS, i64_w, i32_w]
        rfl
       refine take_ (i := 13) (N := some 55) (v := ?_) (a' := ?_) (bs 20 65279) rfl rfl (take_ofW HT_.out HW_.out (by kernel_rfl)) (fun _ _ _ h => h) (Or.inl ⟨by rfl, ?_⟩) hHeld ?_ ?_
       rotate_left
       ·rintro w' ⟨s0, s1, s2, s3⟩
        go_simp
        with_reducible rfl
       rotate_left
       ·simp only [Act.put, sA, sZ, sS, i64_w, i32_w]
        rfl
       refine pure_ (i := 16) (N := some 58) (v := ?_) (a' := ?_) (bs 20 130815) rfl rfl (any_of HT_.out (by kernel_rfl)) (fun _ _ _ h => h) (Or.inl ⟨by rfl, ?_⟩) ?_ ?_
       rotate_left
       ·intro w'
        go_simp
        with_reducible rfl
       rotate_left
       ·simp only [Act.put, sA, sZ, sS, i64_w, i32_w]
        rfl
       refine take_ (i := 17) (N := some 59) (v := ?_) (a' := ?_) (bs 20 261887) rfl rfl (take_ofW HT_.out HW_.out (by kernel_rfl)) (fun _ _ _ h => h) (Or.inl ⟨by rfl, ?_⟩) hHeld ?_ ?_
       rotate_left
       ·rintro w' ⟨s0, s1, s2, s3⟩
        go_simp
        with_reducible rfl
       rotate_left
       ·simp only [Act.put, sA, sZ, sS, i64_w, i32_w]
        rfl
       refine one_ (i := 8) (N := some 50) (bs 20 262143) rfl rfl (one_of HT_.out (by kernel_rfl)) (by decide) (fun K hK => ?_)
       refine goes_ Try.func30 (by kernel_rfl) rfl #[.int .i64 t116] (by rfl) rfl rfl (by (try simp only [List.map_toArray, List.map_cons, List.map_nil]); first | done | rfl | (simp only [List.length_drop, List.length_take]; rfl)) ?_
       with_reducible refine (compare_Cost.calls kj7 t116 t119 _ A19.out).mono ?_
       rintro e w' ⟨rfl, ⟨nd, rfl⟩⟩
       refine ⟨_, rfl, ?_⟩
       refine hK.out _ _ ⟨hHeld.1, hHeld.2.1, hHeld.2.2.1, hHeld.2.2.2⟩ (fun hHeld => ?_)
       clear hK K
       refine norm_ (a' := ?_) ?_ ?_
       rotate_left
       ·show Act.put _ (some 50) _ = _
        simp only [Act.put, sA, sZ, sS, i64_w, i32_w]
        rfl
       refine pure_ (i := 18) (N := some 60) (v := ?_) (a' := ?_) (bs 20 524287) rfl rfl (any_of HT_.out (by kernel_rfl)) (fun _ _ _ h => h) (Or.inl ⟨by rfl, ?_⟩) ?_ ?_
       rotate_left
       ·intro w'
        go_simp
        with_reducible rfl
       rotate_left
       ·simp only [Act.put, sA, sZ, sS, i64_w, i32_w]
        rfl
       refine pure_ (i := 19) (N := some 61) (v := ?_) (a' := ?_) (bs 20 1048575) rfl rfl (any_of HT_.out (by kernel_rfl)) (fun _ _ _ h => h) (Or.inl ⟨by rfl, ?_⟩) ?_ ?_
       rotate_left
       ·intro w'
        go_simp
        with_reducible rfl
       rotate_left
       ·simp only [Act.put, sA, sZ, sS, i64_w, i32_w]
        rfl
       refine done_ (done_of HT_.out (by kernel_rfl)) ?_
       try go_wp2_with (first | ((with_reducible refine gate_dst (N := 11) rfl ?_); (try (refine gate_guard (by rfl) ?_; dsimp only)); refine box_event ?hg (N := 11) ?hd (cs := #[.int .i64 0, .string (⟨#[]⟩ : ByteArray), .int .i64 0, .bool false, .bool false, .bool false]) (t := 63) ?hr ?_; (case hd => rfl); (case hg => rfl); (case hr => first | (go_simp; done) | (go_simp; rfl)); intro gb122 hg w41 hbox hb; have n0_ := aS (Kd.N_below (Kd.N_elderB (by exact nel <| HO_6.out) gb122 (Nat.le_of_eq hg.symm)) hb); have n1_ := aS (Kd.R_below (Kd.R_elderB (by exact rel <| HO_7.out) gb122 (Nat.le_of_eq hg.symm)) hb); have n2_ := aS (Kd.V_below (Kd.V_elderB (by exact vel <| HL117_0.out) gb122 (Nat.le_of_eq hg.symm)) hb); have n3_ := aS (Kd.V_below (Kd.V_elderB (by exact vel <| HL120_0.out) gb122 (Nat.le_of_eq hg.symm)) hb); have n4_ := aS (Kd.C_below (by repeat (first | (with_reducible exact HR117_0.out) | (with_reducible apply Kd.C_alloc) | (with_reducible apply Kd.C_drewN) | (with_reducible apply Kd.C_drew) | exact HR117_0.out)) hb); have n5_ := aS (Kd.C_below (by repeat (first | (with_reducible exact HR120_0.out) | (with_reducible apply Kd.C_alloc) | (with_reducible apply Kd.C_drewN) | (with_reducible apply Kd.C_drew) | exact HR120_0.out)) hb); have n6_ := aS (below_step (by first | exact bel HB.out | exact HB.out) hb); have n7_ := aS (hbox); have n8_ := aS ((by rw [hg]; exact (below_size (by first | exact bel HB.out | exact HB.out)) : w.heap.size ≤ gb122)); have n9_ := aS ((by rw [hg]; exact (below_size (by first | exact bel HB.out | exact HB.out)) : w.heap.size ≤ gb122)); clear HO_6; clear HO_7; clear HL117_0; clear HL120_0; clear HR117_0; clear HR120_0; clear HB; have HO_6 := n0_; have HO_7 := n1_; have HL117_0 := n2_; have HL120_0 := n3_; have HR117_0 := n4_; have HR120_0 := n5_; have HB := n6_; have BK122 := n7_; have GW122 := n8_; have GE122 := n9_; clear n0_ n1_ n2_ n3_ n4_ n5_ n6_ n7_ n8_ n9_; clear hb hbox hg; have hcz42_0 : w41.cell? ⟨gb122, 0, none⟩ = some (.int .i64 0) := (blk_cell BK122.out 0).trans rfl; have hcz42_1 : w41.cell? ⟨gb122, 1, none⟩ = some (.string (⟨#[]⟩ : ByteArray)) := (blk_cell BK122.out 1).trans rfl; have hcz42_2 : w41.cell? ⟨gb122, 2, none⟩ = some (.int .i64 0) := (blk_cell BK122.out 2).trans rfl; have hcz42_3 : w41.cell? ⟨gb122, 3, none⟩ = some (.bool false) := (blk_cell BK122.out 3).trans rfl; have hcz42_4 : w41.cell? ⟨gb122, 4, none⟩ = some (.bool false) := (blk_cell BK122.out 4).trans rfl; have hcz42_5 : w41.cell? ⟨gb122, 5, none⟩ = some (.bool false) := (blk_cell BK122.out 5).trans rfl; have hfz42_0 := blk_frozen BK122.out 0; have hfz42_1 := blk_frozen BK122.out 1; have hfz42_2 := blk_frozen BK122.out 2; have hfz42_3 := blk_frozen BK122.out 3; have hfz42_4 := blk_frozen BK122.out 4; have hfz42_5 := blk_frozen BK122.out 5; have hB6_ : ((((((w41.setCell ⟨gb122, 0, none⟩ (.int .i64 t116)).setCell ⟨gb122, 1, none⟩ (.string (⟨#[]⟩ : ByteArray))).setCell ⟨gb122, 2, none⟩ (.int .i64 0)).setCell ⟨gb122, 3, none⟩ (.bool false)).setCell ⟨gb122, 4, none⟩ (.bool false)).setCell ⟨gb122, 5, none⟩ (.bool false)).heap[gb122]? = some (.cells #[.int .i64 t116, .string (⟨#[]⟩ : ByteArray), .int .i64 0, .bool false, .bool false, .bool false] 63 (0, 0)) := (by refine blk_put (cs := #[.int .i64 t116, .string (⟨#[]⟩ : ByteArray), .int .i64 0, .bool false, .bool false, .bool false]) ?_ 5 _ rfl; refine blk_put (cs := #[.int .i64 t116, .string (⟨#[]⟩ : ByteArray), .int .i64 0, .bool false, .bool false, .bool false]) ?_ 4 _ rfl; refine blk_put (cs := #[.int .i64 t116, .string (⟨#[]⟩ : ByteArray), .int .i64 0, .bool false, .bool false, .bool false]) ?_ 3 _ rfl; refine blk_put (cs := #[.int .i64 t116, .string (⟨#[]⟩ : ByteArray), .int .i64 0, .bool false, .bool false, .bool false]) ?_ 2 _ rfl; refine blk_put (cs := #[.int .i64 t116, .string (⟨#[]⟩ : ByteArray), .int .i64 0, .bool false, .bool false, .bool false]) ?_ 1 _ rfl; refine blk_put (cs := #[.int .i64 0, .string (⟨#[]⟩ : ByteArray), .int .i64 0, .bool false, .bool false, .bool false]) ?_ 0 _ rfl; exact BK122.out); have hcy1_ : ((((((w41.setCell ⟨gb122, 0, none⟩ (.int .i64 t116)).setCell ⟨gb122, 1, none⟩ (.string (⟨#[]⟩ : ByteArray))).setCell ⟨gb122, 2, none⟩ (.int .i64 0)).setCell ⟨gb122, 3, none⟩ (.bool false)).setCell ⟨gb122, 4, none⟩ (.bool false)).setCell ⟨gb122, 5, none⟩ (.bool false)).cell? ⟨gb122, 1, none⟩ = some (.string (⟨#[]⟩ : ByteArray)) := (blk_cell hB6_ 1).trans rfl; have hcy2_ : ((((((w41.setCell ⟨gb122, 0, none⟩ (.int .i64 t116)).setCell ⟨gb122, 1, none⟩ (.string (⟨#[]⟩ : ByteArray))).setCell ⟨gb122, 2, none⟩ (.int .i64 0)).setCell ⟨gb122, 3, none⟩ (.bool false)).setCell ⟨gb122, 4, none⟩ (.bool false)).setCell ⟨gb122, 5, none⟩ (.bool false)).cell? ⟨gb122, 2, none⟩ = some (.int .i64 0) := (blk_cell hB6_ 2).trans rfl; have hcy3_ : ((((((w41.setCell ⟨gb122, 0, none⟩ (.int .i64 t116)).setCell ⟨gb122, 1, none⟩ (.string (⟨#[]⟩ : ByteArray))).setCell ⟨gb122, 2, none⟩ (.int .i64 0)).setCell ⟨gb122, 3, none⟩ (.bool false)).setCell ⟨gb122, 4, none⟩ (.bool false)).setCell ⟨gb122, 5, none⟩ (.bool false)).cell? ⟨gb122, 3, none⟩ = some (.bool false) := (blk_cell hB6_ 3).trans rfl; have hcy4_ : ((((((w41.setCell ⟨gb122, 0, none⟩ (.int .i64 t116)).setCell ⟨gb122, 1, none⟩ (.string (⟨#[]⟩ : ByteArray))).setCell ⟨gb122, 2, none⟩ (.int .i64 0)).setCell ⟨gb122, 3, none⟩ (.bool false)).setCell ⟨gb122, 4, none⟩ (.bool false)).setCell ⟨gb122, 5, none⟩ (.bool false)).cell? ⟨gb122, 4, none⟩ = some (.bool false) := (blk_cell hB6_ 4).trans rfl; have hcy5_ : ((((((w41.setCell ⟨gb122, 0, none⟩ (.int .i64 t116)).setCell ⟨gb122, 1, none⟩ (.string (⟨#[]⟩ : ByteArray))).setCell ⟨gb122, 2, none⟩ (.int .i64 0)).setCell ⟨gb122, 3, none⟩ (.bool false)).setCell ⟨gb122, 4, none⟩ (.bool false)).setCell ⟨gb122, 5, none⟩ (.bool false)).cell? ⟨gb122, 5, none⟩ = some (.bool false) := (blk_cell hB6_ 5).trans rfl; have p126 : 0 ≤ (x9_2 : Int) := of_decide_eq_true (by first | (with_reducible assumption) | assumption); have q126 : x9_2 < (l1.length : Int) := of_decide_eq_true (by first | (with_reducible assumption) | assumption); obtain ⟨ad126, e126, hx126_0, hx126_1, hx126_2, hx126_3, hx126_4⟩ := at_T50 HR1.out x9_2 p126 q126; obtain rfl : ad115 = ad126 := (by injection e126); have hn126_0 : ad115.block ≠ gb122 := Nat.ne_of_lt (Nat.lt_of_lt_of_le (by have := World.block_lt_of_cell? _ _ hx126_0; first | rwa [add_block] at this | exact this) GW122.out); have hn126_1 : ad115.block ≠ gb122 := Nat.ne_of_lt (Nat.lt_of_lt_of_le (by have := World.block_lt_of_cell? _ _ hx126_0; first | rwa [add_block] at this | exact this) GW122.out); have hn126_2 : ad115.block ≠ gb122 := Nat.ne_of_lt (Nat.lt_of_lt_of_le (by have := World.block_lt_of_cell? _ _ hx126_0; first | rwa [add_block] at this | exact this) GW122.out); have hn126_3 : ad115.block ≠ gb122 := Nat.ne_of_lt (Nat.lt_of_lt_of_le (by have := World.block_lt_of_cell? _ _ hx126_0; first | rwa [add_block] at this | exact this) GW122.out); have hn126_4 : ad115.block ≠ gb122 := Nat.ne_of_lt (Nat.lt_of_lt_of_le (by have := World.block_lt_of_cell? _ _ hx126_0; first | rwa [add_block] at this | exact this) GW122.out); have hn126_5 : ad115.block ≠ gb122 := Nat.ne_of_lt (Nat.lt_of_lt_of_le (by have := World.block_lt_of_cell? _ _ hx126_0; first | rwa [add_block] at this | exact this) GW122.out); replace hx126_0 := hup HB.out hx126_0; replace hx126_1 := hup HB.out hx126_1; replace hx126_2 := hup HB.out hx126_2; replace hx126_3 := hup HB.out hx126_3; replace hx126_4 := hup HB.out hx126_4; replace hx126_0 := (cell_far (p := ⟨gb122, 0, none⟩) (by first | (rw [add_block]; exact hn126_0) | (show (Addr.add _ _).block ≠ _; rw [add_block]; exact hn126_0) | exact hn126_0) (.int .i64 t116)).trans hx126_0; replace hx126_1 := (cell_far (p := ⟨gb122, 0, none⟩) (by first | (rw [add_block]; exact hn126_0) | (show (Addr.add _ _).block ≠ _; rw [add_block]; exact hn126_0) | exact hn126_0) (.int .i64 t116)).trans hx126_1; replace hx126_2 := (cell_far (p := ⟨gb122, 0, none⟩) (by first | (rw [add_block]; exact hn126_0) | (show (Addr.add _ _).block ≠ _; rw [add_block]; exact hn126_0) | exact hn126_0) (.int .i64 t116)).trans hx126_2; replace hx126_3 := (cell_far (p := ⟨gb122, 0, none⟩) (by first | (rw [add_block]; exact hn126_0) | (show (Addr.add _ _).block ≠ _; rw [add_block]; exact hn126_0) | exact hn126_0) (.int .i64 t116)).trans hx126_3; replace hx126_4 := (cell_far (p := ⟨gb122, 0, none⟩) (by first | (rw [add_block]; exact hn126_0) | (show (Addr.add _ _).block ≠ _; rw [add_block]; exact hn126_0) | exact hn126_0) (.int .i64 t116)).trans hx126_4; replace hx126_0 := (cell_far (p := ⟨gb122, 1, none⟩) (by first | (rw [add_block]; exact hn126_1) | (show (Addr.add _ _).block ≠ _; rw [add_block]; exact hn126_1) | exact hn126_1) (.string (⟨#[]⟩ : ByteArray))).trans hx126_0; replace hx126_1 := (cell_far (p := ⟨gb122, 1, none⟩) (by first | (rw [add_block]; exact hn126_1) | (show (Addr.add _ _).block ≠ _; rw [add_block]; exact hn126_1) | exact hn126_1) (.string (⟨#[]⟩ : ByteArray))).trans hx126_1; replace hx126_2 := (cell_far (p := ⟨gb122, 1, none⟩) (by first | (rw [add_block]; exact hn126_1) | (show (Addr.add _ _).block ≠ _; rw [add_block]; exact hn126_1) | exact hn126_1) (.string (⟨#[]⟩ : ByteArray))).trans hx126_2; replace hx126_3 := (cell_far (p := ⟨gb122, 1, none⟩) (by first | (rw [add_block]; exact hn126_1) | (show (Addr.add _ _).block ≠ _; rw [add_block]; exact hn126_1) | exact hn126_1) (.string (⟨#[]⟩ : ByteArray))).trans hx126_3; replace hx126_4 := (cell_far (p := ⟨gb122, 1, none⟩) (by first | (rw [add_block]; exact hn126_1) | (show (Addr.add _ _).block ≠ _; rw [add_block]; exact hn126_1) | exact hn126_1) (.string (⟨#[]⟩ : ByteArray))).trans hx126_4; replace hx126_0 := (cell_far (p := ⟨gb122, 2, none⟩) (by first | (rw [add_block]; exact hn126_2) | (show (Addr.add _ _).block ≠ _; rw [add_block]; exact hn126_2) | exact hn126_2) (.int .i64 0)).trans hx126_0; replace hx126_1 := (cell_far (p := ⟨gb122, 2, none⟩) (by first | (rw [add_block]; exact hn126_2) | (show (Addr.add _ _).block ≠ _; rw [add_block]; exact hn126_2) | exact hn126_2) (.int .i64 0)).trans hx126_1; replace hx126_2 := (cell_far (p := ⟨gb122, 2, none⟩) (by first | (rw [add_block]; exact hn126_2) | (show (Addr.add _ _).block ≠ _; rw [add_block]; exact hn126_2) | exact hn126_2) (.int .i64 0)).trans hx126_2; replace hx126_3 := (cell_far (p := ⟨gb122, 2, none⟩) (by first | (rw [add_block]; exact hn126_2) | (show (Addr.add _ _).block ≠ _; rw [add_block]; exact hn126_2) | exact hn126_2) (.int .i64 0)).trans hx126_3; replace hx126_4 := (cell_far (p := ⟨gb122, 2, none⟩) (by first | (rw [add_block]; exact hn126_2) | (show (Addr.add _ _).block ≠ _; rw [add_block]; exact hn126_2) | exact hn126_2) (.int .i64 0)).trans hx126_4; replace hx126_0 := (cell_far (p := ⟨gb122, 3, none⟩) (by first | (rw [add_block]; exact hn126_3) | (show (Addr.add _ _).block ≠ _; rw [add_block]; exact hn126_3) | exact hn126_3) (.bool false)).trans hx126_0; replace hx126_1 := (cell_far (p := ⟨gb122, 3, none⟩) (by first | (rw [add_block]; exact hn126_3) | (show (Addr.add _ _).block ≠ _; rw [add_block]; exact hn126_3) | exact hn126_3) (.bool false)).trans hx126_1; replace hx126_2 := (cell_far (p := ⟨gb122, 3, none⟩) (by first | (rw [add_block]; exact hn126_3) | (show (Addr.add _ _).block ≠ _; rw [add_block]; exact hn126_3) | exact hn126_3) (.bool false)).trans hx126_2; replace hx126_3 := (cell_far (p := ⟨gb122, 3, none⟩) (by first | (rw [add_block]; exact hn126_3) | (show (Addr.add _ _).block ≠ _; rw [add_block]; exact hn126_3) | exact hn126_3) (.bool false)).trans hx126_3; replace hx126_4 := (cell_far (p := ⟨gb122, 3, none⟩) (by first | (rw [add_block]; exact hn126_3) | (show (Addr.add _ _).block ≠ _; rw [add_block]; exact hn126_3) | exact hn126_3) (.bool false)).trans hx126_4; replace hx126_0 := (cell_far (p := ⟨gb122, 4, none⟩) (by first | (rw [add_block]; exact hn126_4) | (show (Addr.add _ _).block ≠ _; rw [add_block]; exact hn126_4) | exact hn126_4) (.bool false)).trans hx126_0; replace hx126_1 := (cell_far (p := ⟨gb122, 4, none⟩) (by first | (rw [add_block]; exact hn126_4) | (show (Addr.add _ _).block ≠ _; rw [add_block]; exact hn126_4) | exact hn126_4) (.bool false)).trans hx126_1; replace hx126_2 := (cell_far (p := ⟨gb122, 4, none⟩) (by first | (rw [add_block]; exact hn126_4) | (show (Addr.add _ _).block ≠ _; rw [add_block]; exact hn126_4) | exact hn126_4) (.bool false)).trans hx126_2; replace hx126_3 := (cell_far (p := ⟨gb122, 4, none⟩) (by first | (rw [add_block]; exact hn126_4) | (show (Addr.add _ _).block ≠ _; rw [add_block]; exact hn126_4) | exact hn126_4) (.bool false)).trans hx126_3; replace hx126_4 := (cell_far (p := ⟨gb122, 4, none⟩) (by first | (rw [add_block]; exact hn126_4) | (show (Addr.add _ _).block ≠ _; rw [add_block]; exact hn126_4) | exact hn126_4) (.bool false)).trans hx126_4; replace hx126_0 := (cell_far (p := ⟨gb122, 5, none⟩) (by first | (rw [add_block]; exact hn126_5) | (show (Addr.add _ _).block ≠ _; rw [add_block]; exact hn126_5) | exact hn126_5) (.bool false)).trans hx126_0; replace hx126_1 := (cell_far (p := ⟨gb122, 5, none⟩) (by first | (rw [add_block]; exact hn126_5) | (show (Addr.add _ _).block ≠ _; rw [add_block]; exact hn126_5) | exact hn126_5) (.bool false)).trans hx126_1; replace hx126_2 := (cell_far (p := ⟨gb122, 5, none⟩) (by first | (rw [add_block]; exact hn126_5) | (show (Addr.add _ _).block ≠ _; rw [add_block]; exact hn126_5) | exact hn126_5) (.bool false)).trans hx126_2; replace hx126_3 := (cell_far (p := ⟨gb122, 5, none⟩) (by first | (rw [add_block]; exact hn126_5) | (show (Addr.add _ _).block ≠ _; rw [add_block]; exact hn126_5) | exact hn126_5) (.bool false)).trans hx126_3; replace hx126_4 := (cell_far (p := ⟨gb122, 5, none⟩) (by first | (rw [add_block]; exact hn126_5) | (show (Addr.add _ _).block ≠ _; rw [add_block]; exact hn126_5) | exact hn126_5) (.bool false)).trans hx126_4; clear hn126_0; clear hn126_1; clear hn126_2; clear hn126_3; clear hn126_4; clear hn126_5; replace p126 := eq_true p126; replace q126 := eq_true q126) | ((with_reducible refine gate_builtin (b := .append) (xs := #[.tmp 71, .tmp 73]) rfl ?_); (try (refine gate_guard (by rfl) ?_; dsimp only)); at_builtin; refine Kd.R_append k63 (w0 := w) w.heap.size rfl (.tmp 71) (.tmp 73) 28 63 (.agg #[(.int .i64 0), (.string ⟨#[]⟩), (.int .i64 0), (.bool false), (.bool false), (.bool false)]) 40 rfl Try.underlying28 info63 rfl (by decide) (by omega) u7 x7_2 (⟨t116, (⟨(rd_T50 l1 x9_2).f0, (rd_T50 l1 x9_2).f1, (rd_T50 l1 x9_2).f2, (rd_T50 l1 x9_2).f3, (rd_T50 l1 x9_2).f4⟩ : S50)⟩ : S63) [.int .i64 t116, .string ((rd_T50 l1 x9_2).f0), .int .i64 ((rd_T50 l1 x9_2).f1), .bool ((rd_T50 l1 x9_2).f2), .bool ((rd_T50 l1 x9_2).f3), .bool ((rd_T50 l1 x9_2).f4)] (fun k_ => k_ ≠ gb122) (fun _ => False) rfl (by first | (go_simp; done) | (go_simp; rfl)) ?aP (fun _ hk => hk.elim) ?aF ?aO ?aB ?aS ?aL ?_; (case aP => exact k63_mkM _ _ _ (⟨t116, (⟨(rd_T50 l1 x9_2).f0, (rd_T50 l1 x9_2).f1, (rd_T50 l1 x9_2).f2, (rd_T50 l1 x9_2).f3, (rd_T50 l1 x9_2).f4⟩ : S50)⟩ : S63)); (case aB => exact (by repeat (first | (with_reducible first | exact HB.out | apply bA | apply bN | apply bD | refine below_set ?_ GE122.out) | exact HB.out))); (case aF => exact (fun k_ hk => Kd.freshB (g := gb122) (o := .cells #[.int .i64 t116, .string ((rd_T50 l1 x9_2).f0), .int .i64 ((rd_T50 l1 x9_2).f1), .bool ((rd_T50 l1 x9_2).f2), .bool ((rd_T50 l1 x9_2).f3), .bool ((rd_T50 l1 x9_2).f4)] 63 (0, 0)) (by (with_reducible repeat (first | refine blk_drewN ?_ _ | refine blk_drew ?_ | refine blk_alloc ?_ _)); refine blk_put (cs := #[.int .i64 t116, .string ((rd_T50 l1 x9_2).f0), .int .i64 ((rd_T50 l1 x9_2).f1), .bool ((rd_T50 l1 x9_2).f2), .bool ((rd_T50 l1 x9_2).f3), .bool false]) ?_ 5 _ rfl; (with_reducible repeat (first | refine blk_drewN ?_ _ | refine blk_drew ?_ | refine blk_alloc ?_ _)); refine blk_put (cs := #[.int .i64 t116, .string ((rd_T50 l1 x9_2).f0), .int .i64 ((rd_T50 l1 x9_2).f1), .bool ((rd_T50 l1 x9_2).f2), .bool false, .bool false]) ?_ 4 _ rfl; (with_reducible repeat (first | refine blk_drewN ?_ _ | refine blk_drew ?_ | refine blk_alloc ?_ _)); refine blk_put (cs := #[.int .i64 t116, .string ((rd_T50 l1 x9_2).f0), .int .i64 ((rd_T50 l1 x9_2).f1), .bool false, .bool false, .bool false]) ?_ 3 _ rfl; (with_reducible repeat (first | refine blk_drewN ?_ _ | refine blk_drew ?_ | refine blk_alloc ?_ _)); refine blk_put (cs := #[.int .i64 t116, .string ((rd_T50 l1 x9_2).f0), .int .i64 0, .bool false, .bool false, .bool false]) ?_ 2 _ rfl; (with_reducible repeat (first | refine blk_drewN ?_ _ | refine blk_drew ?_ | refine blk_alloc ?_ _)); refine blk_put (cs := #[.int .i64 t116, .string (⟨#[]⟩ : ByteArray), .int .i64 0, .bool false, .bool false, .bool false]) ?_ 1 _ rfl; (with_reducible repeat (first | refine blk_drewN ?_ _ | refine blk_drew ?_ | refine blk_alloc ?_ _)); refine blk_put (cs := #[.int .i64 t116, .string (⟨#[]⟩ : ByteArray), .int .i64 0, .bool false, .bool false, .bool false]) ?_ 5 _ rfl; (with_reducible repeat (first | refine blk_drewN ?_ _ | refine blk_drew ?_ | refine blk_alloc ?_ _)); refine blk_put (cs := #[.int .i64 t116, .string (⟨#[]⟩ : ByteArray), .int .i64 0, .bool false, .bool false, .bool false]) ?_ 4 _ rfl; (with_reducible repeat (first | refine blk_drewN ?_ _ | refine blk_drew ?_ | refine blk_alloc ?_ _)); refine blk_put (cs := #[.int .i64 t116, .string (⟨#[]⟩ : ByteArray), .int .i64 0, .bool false, .bool false, .bool false]) ?_ 3 _ rfl; (with_reducible repeat (first | refine blk_drewN ?_ _ | refine blk_drew ?_ | refine blk_alloc ?_ _)); refine blk_put (cs := #[.int .i64 t116, .string (⟨#[]⟩ : ByteArray), .int .i64 0, .bool false, .bool false, .bool false]) ?_ 2 _ rfl; (with_reducible repeat (first | refine blk_drewN ?_ _ | refine blk_drew ?_ | refine blk_alloc ?_ _)); refine blk_put (cs := #[.int .i64 t116, .string (⟨#[]⟩ : ByteArray), .int .i64 0, .bool false, .bool false, .bool false]) ?_ 1 _ rfl; (with_reducible repeat (first | refine blk_drewN ?_ _ | refine blk_drew ?_ | refine blk_alloc ?_ _)); refine blk_put (cs := #[.int .i64 0, .string (⟨#[]⟩ : ByteArray), .int .i64 0, .bool false, .bool false, .bool false]) ?_ 0 _ rfl; (with_reducible repeat (first | refine blk_drewN ?_ _ | refine blk_drew ?_ | refine blk_alloc ?_ _)); exact BK122.out) k_ hk)); (case aO => exact (by exact rel <| Kd.R_mono (Kd.R_far (p := ⟨gb122, 5, none⟩) (Kd.R_far (p := ⟨gb122, 4, none⟩) (Kd.R_far (p := ⟨gb122, 3, none⟩) (Kd.R_far (p := ⟨gb122, 2, none⟩) (Kd.R_far (p := ⟨gb122, 1, none⟩) (Kd.R_far (p := ⟨gb122, 5, none⟩) (Kd.R_far (p := ⟨gb122, 4, none⟩) (Kd.R_far (p := ⟨gb122, 3, none⟩) (Kd.R_far (p := ⟨gb122, 2, none⟩) (Kd.R_far (p := ⟨gb122, 1, none⟩) (Kd.R_far (p := ⟨gb122, 0, none⟩) (Kd.R_mono HO_7.out (fun k_ hk => (⟨hk, hk.2⟩ : _ ∧ k_ ≠ gb122))) (fun _ hk => hk.2) (.int .i64 t116)) (fun _ hk => hk.2) (.string (⟨#[]⟩ : ByteArray))) (fun _ hk => hk.2) (.int .i64 0)) (fun _ hk => hk.2) (.bool false)) (fun _ hk => hk.2) (.bool false)) (fun _ hk => hk.2) (.bool false)) (fun _ hk => hk.2) (.string ((rd_T50 l1 x9_2).f0))) (fun _ hk => hk.2) (.int .i64 ((rd_T50 l1 x9_2).f1))) (fun _ hk => hk.2) (.bool ((rd_T50 l1 x9_2).f2))) (fun _ hk => hk.2) (.bool ((rd_T50 l1 x9_2).f3))) (fun _ hk => hk.2) (.bool ((rd_T50 l1 x9_2).f4))) (fun _ hk => hk.1.2))); (case aS => exact (below_size (by repeat (first | (with_reducible first | exact HB.out | apply bA | apply bN | apply bD | refine below_set ?_ GE122.out) | exact HB.out)))); (case aL => have := LMc36.out; omega); intro v128 w43 ho hb hg hat; rw [← Ny127.out] at ho; have n0_ := aS (Kd.N_afterv (ok := (fun k_ => k_ ≠ gb122)) (by exact nel <| Kd.N_mono (Kd.N_far (p := ⟨gb122, 5, none⟩) (Kd.N_far (p := ⟨gb122, 4, none⟩) (Kd.N_far (p := ⟨gb122, 3, none⟩) (Kd.N_far (p := ⟨gb122, 2, none⟩) (Kd.N_far (p := ⟨gb122, 1, none⟩) (Kd.N_far (p := ⟨gb122, 5, none⟩) (Kd.N_far (p := ⟨gb122, 4, none⟩) (Kd.N_far (p := ⟨gb122, 3, none⟩) (Kd.N_far (p := ⟨gb122, 2, none⟩) (Kd.N_far (p := ⟨gb122, 1, none⟩) (Kd.N_far (p := ⟨gb122, 0, none⟩) (Kd.N_mono HO_6.out (fun k_ hk => (⟨hk, hk.2⟩ : _ ∧ k_ ≠ gb122))) (fun _ hk => hk.2) (.int .i64 t116)) (fun _ hk => hk.2) (.string (⟨#[]⟩ : ByteArray))) (fun _ hk => hk.2) (.int .i64 0)) (fun _ hk => hk.2) (.bool false)) (fun _ hk => hk.2) (.bool false)) (fun _ hk => hk.2) (.bool false)) (fun _ hk => hk.2) (.string ((rd_T50 l1 x9_2).f0))) (fun _ hk => hk.2) (.int .i64 ((rd_T50 l1 x9_2).f1))) (fun _ hk => hk.2) (.bool ((rd_T50 l1 x9_2).f2))) (fun _ hk => hk.2) (.bool ((rd_T50 l1 x9_2).f3))) (fun _ hk => hk.2) (.bool ((rd_T50 l1 x9_2).f4))) (fun _ hk => ⟨hk.1.2, hk.1.1⟩)) hg hat); have n1_ := aS (Kd.V_afterv (ok := (fun k_ => some k_ ≠ (.slice (some ad117) t111.length co40 : Value).ownBlock ∧ k_ ≠ gb122)) (by exact vel <| Kd.V_mono (Kd.V_far (p := ⟨gb122, 5, none⟩) (Kd.V_far (p := ⟨gb122, 4, none⟩) (Kd.V_far (p := ⟨gb122, 3, none⟩) (Kd.V_far (p := ⟨gb122, 2, none⟩) (Kd.V_far (p := ⟨gb122, 1, none⟩) (Kd.V_far (p := ⟨gb122, 5, none⟩) (Kd.V_far (p := ⟨gb122, 4, none⟩) (Kd.V_far (p := ⟨gb122, 3, none⟩) (Kd.V_far (p := ⟨gb122, 2, none⟩) (Kd.V_far (p := ⟨gb122, 1, none⟩) (Kd.V_far (p := ⟨gb122, 0, none⟩) (Kd.V_mono HL117_0.out (fun k_ hk => (⟨hk, hk.2⟩ : _ ∧ k_ ≠ gb122))) (fun _ hk => hk.2) (.int .i64 t116)) (fun _ hk => hk.2) (.string (⟨#[]⟩ : ByteArray))) (fun _ hk => hk.2) (.int .i64 0)) (fun _ hk => hk.2) (.bool false)) (fun _ hk => hk.2) (.bool false)) (fun _ hk => hk.2) (.bool false)) (fun _ hk => hk.2) (.string ((rd_T50 l1 x9_2).f0))) (fun _ hk => hk.2) (.int .i64 ((rd_T50 l1 x9_2).f1))) (fun _ hk => hk.2) (.bool ((rd_T50 l1 x9_2).f2))) (fun _ hk => hk.2) (.bool ((rd_T50 l1 x9_2).f3))) (fun _ hk => hk.2) (.bool ((rd_T50 l1 x9_2).f4))) (fun _ hk => ⟨⟨hk.1.1.2, hk.1.2⟩, hk.1.1.1⟩)) hg hat); have n2_ := aS (Kd.V_afterv (ok := (fun k_ => some k_ ≠ (.slice (some ad117) t111.length co40 : Value).ownBlock ∧ k_ ≠ gb122)) (by exact vel <| Kd.V_mono (Kd.V_far (p := ⟨gb122, 5, none⟩) (Kd.V_far (p := ⟨gb122, 4, none⟩) (Kd.V_far (p := ⟨gb122, 3, none⟩) (Kd.V_far (p := ⟨gb122, 2, none⟩) (Kd.V_far (p := ⟨gb122, 1, none⟩) (Kd.V_far (p := ⟨gb122, 5, none⟩) (Kd.V_far (p := ⟨gb122, 4, none⟩) (Kd.V_far (p := ⟨gb122, 3, none⟩) (Kd.V_far (p := ⟨gb122, 2, none⟩) (Kd.V_far (p := ⟨gb122, 1, none⟩) (Kd.V_far (p := ⟨gb122, 0, none⟩) (Kd.V_mono HL120_0.out (fun k_ hk => (⟨hk, hk.2⟩ : _ ∧ k_ ≠ gb122))) (fun _ hk => hk.2) (.int .i64 t116)) (fun _ hk => hk.2) (.string (⟨#[]⟩ : ByteArray))) (fun _ hk => hk.2) (.int .i64 0)) (fun _ hk => hk.2) (.bool false)) (fun _ hk => hk.2) (.bool false)) (fun _ hk => hk.2) (.bool false)) (fun _ hk => hk.2) (.string ((rd_T50 l1 x9_2).f0))) (fun _ hk => hk.2) (.int .i64 ((rd_T50 l1 x9_2).f1))) (fun _ hk => hk.2) (.bool ((rd_T50 l1 x9_2).f2))) (fun _ hk => hk.2) (.bool ((rd_T50 l1 x9_2).f3))) (fun _ hk => hk.2) (.bool ((rd_T50 l1 x9_2).f4))) (fun _ hk => ⟨⟨hk.1.1.2, hk.1.2⟩, hk.1.1.1⟩)) hg hat); have n3_ := aS (blk_grown (g := gb122) (o := .cells #[.int .i64 t116, .string ((rd_T50 l1 x9_2).f0), .int .i64 ((rd_T50 l1 x9_2).f1), .bool ((rd_T50 l1 x9_2).f2), .bool ((rd_T50 l1 x9_2).f3), .bool ((rd_T50 l1 x9_2).f4)] 63 (0, 0)) (by (with_reducible repeat (first | refine blk_drewN ?_ _ | refine blk_drew ?_ | refine blk_alloc ?_ _)); refine blk_put (cs := #[.int .i64 t116, .string ((rd_T50 l1 x9_2).f0), .int .i64 ((rd_T50 l1 x9_2).f1), .bool ((rd_T50 l1 x9_2).f2), .bool ((rd_T50 l1 x9_2).f3), .bool false]) ?_ 5 _ rfl; (with_reducible repeat (first | refine blk_drewN ?_ _ | refine blk_drew ?_ | refine blk_alloc ?_ _)); refine blk_put (cs := #[.int .i64 t116, .string ((rd_T50 l1 x9_2).f0), .int .i64 ((rd_T50 l1 x9_2).f1), .bool ((rd_T50 l1 x9_2).f2), .bool false, .bool false]) ?_ 4 _ rfl; (with_reducible repeat (first | refine blk_drewN ?_ _ | refine blk_drew ?_ | refine blk_alloc ?_ _)); refine blk_put (cs := #[.int .i64 t116, .string ((rd_T50 l1 x9_2).f0), .int .i64 ((rd_T50 l1 x9_2).f1), .bool false, .bool false, .bool false]) ?_ 3 _ rfl; (with_reducible repeat (first | refine blk_drewN ?_ _ | refine blk_drew ?_ | refine blk_alloc ?_ _)); refine blk_put (cs := #[.int .i64 t116, .string ((rd_T50 l1 x9_2).f0), .int .i64 0, .bool false, .bool false, .bool false]) ?_ 2 _ rfl; (with_reducible repeat (first | refine blk_drewN ?_ _ | refine blk_drew ?_ | refine blk_alloc ?_ _)); refine blk_put (cs := #[.int .i64 t116, .string (⟨#[]⟩ : ByteArray), .int .i64 0, .bool false, .bool false, .bool false]) ?_ 1 _ rfl; (with_reducible repeat (first | refine blk_drewN ?_ _ | refine blk_drew ?_ | refine blk_alloc ?_ _)); refine blk_put (cs := #[.int .i64 t116, .string (⟨#[]⟩ : ByteArray), .int .i64 0, .bool false, .bool false, .bool false]) ?_ 5 _ rfl; (with_reducible repeat (first | refine blk_drewN ?_ _ | refine blk_drew ?_ | refine blk_alloc ?_ _)); refine blk_put (cs := #[.int .i64 t116, .string (⟨#[]⟩ : ByteArray), .int .i64 0, .bool false, .bool false, .bool false]) ?_ 4 _ rfl; (with_reducible repeat (first | refine blk_drewN ?_ _ | refine blk_drew ?_ | refine blk_alloc ?_ _)); refine blk_put (cs := #[.int .i64 t116, .string (⟨#[]⟩ : ByteArray), .int .i64 0, .bool false, .bool false, .bool false]) ?_ 3 _ rfl; (with_reducible repeat (first | refine blk_drewN ?_ _ | refine blk_drew ?_ | refine blk_alloc ?_ _)); refine blk_put (cs := #[.int .i64 t116, .string (⟨#[]⟩ : ByteArray), .int .i64 0, .bool false, .bool false, .bool false]) ?_ 2 _ rfl; (with_reducible repeat (first | refine blk_drewN ?_ _ | refine blk_drew ?_ | refine blk_alloc ?_ _)); refine blk_put (cs := #[.int .i64 t116, .string (⟨#[]⟩ : ByteArray), .int .i64 0, .bool false, .bool false, .bool false]) ?_ 1 _ rfl; (with_reducible repeat (first | refine blk_drewN ?_ _ | refine blk_drew ?_ | refine blk_alloc ?_ _)); refine blk_put (cs := #[.int .i64 0, .string (⟨#[]⟩ : ByteArray), .int .i64 0, .bool false, .bool false, .bool false]) ?_ 0 _ rfl; (with_reducible repeat (first | refine blk_drewN ?_ _ | refine blk_drew ?_ | refine blk_alloc ?_ _)); exact BK122.out) hg (Kd.R_away HO_7.out (fun _ hk => hk.2))); have n4_ := aS (hb); have n5_ := aS (ho); clear HO_6; clear HL117_0; clear HL120_0; clear BK122; clear HB; clear HO_7; have HO_6 := n0_; have HL117_0 := n1_; have HL120_0 := n2_; have BK122 := n3_; have HB := n4_; have HO129 := n5_; clear n0_ n1_ n2_ n3_ n4_ n5_; clear ho hb hg hat))
       go_step3
       refine ⟨rfl, ?_⟩
       go_step
       go_roundg kj7
       case measure => have := HJ2.out; have := HK2.out; have := HJ7.out; omega
       case rel => exact ⟨(y127), (ji20), (ji23), (by first | rfl | (simp; done) | (simp only [← hji20] <;> (first | rfl | simp)) | (simp [*]; done)), (by first | rfl | (simp; done) | (simp only [← hji23] <;> (first | rfl | simp)) | (simp [*]; done)), H', ⟨by have := HJ2.out; have := HK2.out; have := HJ7.out; omega⟩, ⟨by exact nel <| Kd.N_mono HO_6.out (fun _ hk => hk.2)⟩, ⟨by exact rel <| Kd.R_mono HO129.out (fun _ hk => trivial)⟩, ⟨by repeat (first | (with_reducible first | exact HB.out | apply bA | apply bN | apply bD | refine below_set ?_ GE122.out) | exact HB.out)⟩⟩
      rw [if_pos c27] at H
      have c27b0 : (t116 == 1) = true := beq_iff_eq.mpr c27
      have c27b1 : (t116 != 1) = false := bne_eq_false_iff_eq.mpr c27
      clear c27
      by_cases c28 : x7_2.length < 3518437208883
      rotate_left
      ·rw [if_neg c28] at H
       exact absurd H (by simp)
      rw [if_pos c28] at H
      have LMc28 := aS c28
      clear c28
      obtain ⟨y123, hy123⟩ : ∃ y_ : List (S63), y_ = (x7_2 ++ [(⟨t116, (⟨(⟨#[]⟩ : ByteArray), 0, false, false, false⟩ : S50)⟩ : S63)]) := ⟨_, rfl⟩
      replace H : (compare_Script.l0 kj7 l0 l1 t111 y123 ji20 ji23) = some (r1, r2) := by first | (rw [hy123]; with_reducible exact H) | (have H2_ := (Option.bind_some _ _).symm.trans H; rw [hy123]; with_reducible exact H2_) | (have H2_ := (Option.bind_some _ _).symm.trans H; with_reducible exact H2_) | with_reducible exact H | (rw [hy123]; exact H) | exact H
      have Ny123 := aS hy123
      clear hy123
      have H' := aS H
      clear H
      try go_wp2
      have n0_ := aS (Kd.N_drew HO_6.out)
      have n1_ := aS (Kd.R_drew HO_7.out)
      have n2_ := aS (below_drew1 HB.out)
      clear HO_6
      clear HO_7
      clear HB
      have HO_6 := n0_
      have HO_7 := n1_
      have HB := n2_
      clear n0_ n1_ n2_
      have p114 : 0 ≤ (x8_2 : Int) := of_decide_eq_true (by first | (with_reducible assumption) | assumption)
      have q114 : x8_2 < (l0.length : Int) := of_decide_eq_true (by first | (with_reducible assumption) | assumption)
      obtain ⟨ad114, e114, hx114_0, hx114_1, hx114_2, hx114_3, hx114_4⟩ := at_T50 HR0.out x8_2 p114 q114
      have hw114_4 := hx114_4
      have hw114_3 := hx114_3
      have hw114_2 := hx114_2
      have hw114_1 := hx114_1
      have hw114_0 := hx114_0
      cases e114
      replace hx114_0 := hup HB.out hx114_0
      replace hx114_1 := hup HB.out hx114_1
      replace hx114_2 := hup HB.out hx114_2
      replace hx114_3 := hup HB.out hx114_3
      replace hx114_4 := hup HB.out hx114_4
      replace p114 := eq_true p114
      replace q114 := eq_true q114
      have p115 : 0 ≤ (x9_2 : Int) := of_decide_eq_true (by first | (with_reducible assumption) | assumption)
      have q115 : x9_2 < (l1.length : Int) := of_decide_eq_true (by first | (with_reducible assumption) | assumption)
      obtain ⟨ad115, e115, hx115_0, hx115_1, hx115_2, hx115_3, hx115_4⟩ := at_T50 HR1.out x9_2 p115 q115
      have hw115_4 := hx115_4
      have hw115_3 := hx115_3
      have hw115_2 := hx115_2
      have hw115_1 := hx115_1
      have hw115_0 := hx115_0
      cases e115
      replace hx115_0 := hup HB.out hx115_0
      replace hx115_1 := hup HB.out hx115_1
      replace hx115_2 := hup HB.out hx115_2
      replace hx115_3 := hup HB.out hx115_3
      replace hx115_4 := hup HB.out hx115_4
      replace p115 := eq_true p115
      replace q115 := eq_true q115
      refine start_ (n := 10) (S := fun w' => w'.cell? (ad114.add ((x8_2).toNat * 5)) = some (.string ((rd_T50 l0 x8_2).f0)) ∧ w'.cell? ⟨(ad114.add ((x8_2).toNat * 5)).block, (ad114.add ((x8_2).toNat * 5)).off + 1, none⟩ = some (.int .i64 ((rd_T50 l0 x8_2).f1)) ∧ w'.cell? ⟨(ad114.add ((x8_2).toNat * 5)).block, (ad114.add ((x8_2).toNat * 5)).off + 2, none⟩ = some (.bool ((rd_T50 l0 x8_2).f2)) ∧ w'.cell? ⟨(ad114.add ((x8_2).toNat * 5)).block, (ad114.add ((x8_2).toNat * 5)).off + 3, none⟩ = some (.bool ((rd_T50 l0 x8_2).f3)) ∧ w'.cell? ⟨(ad114.add ((x8_2).toNat * 5)).block, (ad114.add ((x8_2).toNat * 5)).off + 4, none⟩ = some (.bool ((rd_T50 l0 x8_2).f4)) ∧ w'.cell? (ad115.add ((x9_2).toNat * 5)) = some (.string ((rd_T50 l1 x9_2).f0)) ∧ w'.cell? ⟨(ad115.add ((x9_2).toNat * 5)).block, (ad115.add ((x9_2).toNat * 5)).off + 1, none⟩ = some (.int .i64 ((rd_T50 l1 x9_2).f1)) ∧ w'.cell? ⟨(ad115.add ((x9_2).toNat * 5)).block, (ad115.add ((x9_2).toNat * 5)).off + 2, none⟩ = some (.bool ((rd_T50 l1 x9_2).f2)) ∧ w'.cell? ⟨(ad115.add ((x9_2).toNat * 5)).block, (ad115.add ((x9_2).toNat * 5)).off + 3, none⟩ = some (.bool ((rd_T50 l1 x9_2).f3)) ∧ w'.cell? ⟨(ad115.add ((x9_2).toNat * 5)).block, (ad115.add ((x9_2).toNat * 5)).off + 4, none⟩ = some (.bool ((rd_T50 l1 x9_2).f4))) (ds := []) #[false, false, false, false, false, false, false, false, false, false] (by kernel_rfl) rfl rfl ⟨(hup HB.out hw114_0), (hup HB.out hw114_1), (hup HB.out hw114_2), (hup HB.out hw114_3), (hup HB.out hw114_4), (hup HB.out hw115_0), (hup HB.out hw115_1), (hup HB.out hw115_2), (hup HB.out hw115_3), (hup HB.out hw115_4)⟩ (fun hHeld => ?_); refine with_tabW compare_Script.tab7 compare_Script.bits7 (fun HT_ HW_ => ?_)
      generalize wc.drew = w29 at HO_6 HO_7 HB hx114_0 hx114_1 hx114_2 hx114_3 hx114_4 hx115_0 hx115_1 hx115_2 hx115_3 hx115_4 hHeld ⊢
      refine pure_ (i := 0) (N := some 33) (v := ?_) (a' := ?_) (bs 10 1) rfl rfl (any_of HT_.out (by kernel_rfl)) (fun _ _ _ h => h) (Or.inl ⟨by rfl, ?_⟩) ?_ ?_
      rotate_left
      ·intro w'
       go_simp
       with_reducible rfl
      rotate_left
      ·simp only [Act.put, sA, sZ, sS, i64_w, i32_w]
       rfl
      refine pure_ (i := 1) (N := some 34) (v := ?_) (a' := ?_) (bs 10 3) rfl rfl (any_of HT_.out (by kernel_rfl)) (fun _ _ _ h => h) (Or.inl ⟨by rfl, ?_⟩) ?_ ?_
      rotate_left
      ·intro w'
       go_simp
       with_reducible rfl
      rotate_left
      ·simp only [Act.put, sA, sZ, sS, i64_w, i32_w]
       rfl
      refine pure_ (i := 2) (N := some 35) (v := ?_) (a' := ?_) (bs 10 7) rfl rfl (any_of HT_.out (by kernel_rfl)) (fun _ _ _ h => h) (Or.inl ⟨by rfl, ?_⟩) ?_ ?_
      rotate_left
      ·intro w'
       go_simp
       with_reducible rfl
      rotate_left
      ·simp only [Act.put, sA, sZ, sS, i64_w, i32_w]
       rfl
      refine pure_ (i := 4) (N := some 37) (v := ?_) (a' := ?_) (bs 10 23) rfl rfl (any_of HT_.out (by kernel_rfl)) (fun _ _ _ h => h) (Or.inl ⟨by rfl, ?_⟩) ?_ ?_
      rotate_left
      ·intro w'
       go_simp
       with_reducible rfl
      rotate_left
      ·simp only [Act.put, sA, sZ, sS, i64_w, i32_w]
       rfl
      refine pure_ (i := 5) (N := some 38) (v := ?_) (a' := ?_) (bs 10 55) rfl rfl (any_of HT_.out (by kernel_rfl)) (fun _ _ _ h => h) (Or.inl ⟨by rfl, ?_⟩) ?_ ?_
      rotate_left
      ·intro w'
       go_simp
       with_reducible rfl
      rotate_left
      ·simp only [Act.put, sA, sZ, sS, i64_w, i32_w]
       rfl
      refine pure_ (i := 6) (N := some 39) (v := ?_) (a' := ?_) (bs 10 119) rfl rfl (any_of HT_.out (by kernel_rfl)) (fun _ _ _ h => h) (Or.inl ⟨by rfl, ?_⟩) ?_ ?_
      rotate_left
      ·intro w'
       go_simp
       with_reducible rfl
      rotate_left
      ·simp only [Act.put, sA, sZ, sS, i64_w, i32_w]
       rfl
      refine take_ (i := 3) (N := some 36) (v := ?_) (a' := ?_) (bs 10 127) rfl rfl (take_ofW HT_.out HW_.out (by kernel_rfl)) (fun _ _ _ h => h) (Or.inl ⟨by rfl, ?_⟩) hHeld ?_ ?_
      rotate_left
      ·rintro w' ⟨s0, s1, s2, s3, s4, s5, s6, s7, s8, s9⟩
       go_simp
       with_reducible rfl
      rotate_left
      ·simp only [Act.put, sA, sZ, sS, i64_w, i32_w]
       rfl
      refine take_ (i := 7) (N := some 40) (v := ?_) (a' := ?_) (bs 10 255) rfl rfl (take_ofW HT_.out HW_.out (by kernel_rfl)) (fun _ _ _ h => h) (Or.inl ⟨by rfl, ?_⟩) hHeld ?_ ?_
      rotate_left
      ·rintro w' ⟨s0, s1, s2, s3, s4, s5, s6, s7, s8, s9⟩
       go_simp
       with_reducible rfl
      rotate_left
      ·simp only [Act.put, sA, sZ, sS, i64_w, i32_w]
       rfl
      refine one_ (i := 8) (N := some 41) (bs 10 511) rfl rfl (one_of HT_.out (by kernel_rfl)) (by decide) (fun K hK => ?_)
      refine goes_ Try.func35 (by kernel_rfl) rfl #[.agg #[.string ((rd_T50 l0 x8_2).f0), .int .i64 ((rd_T50 l0 x8_2).f1), .bool ((rd_T50 l0 x8_2).f2), .bool ((rd_T50 l0 x8_2).f3), .bool ((rd_T50 l0 x8_2).f4)], .agg #[.string ((rd_T50 l1 x9_2).f0), .int .i64 ((rd_T50 l1 x9_2).f1), .bool ((rd_T50 l1 x9_2).f2), .bool ((rd_T50 l1 x9_2).f3), .bool ((rd_T50 l1 x9_2).f4)]] (by rfl) rfl rfl (by (try simp only [List.map_toArray, List.map_cons, List.map_nil]); first | done | rfl | (simp only [List.length_drop, List.length_take]; rfl)) ?_
      with_reducible refine (compare_taking.calls ((rd_T50 l0 x8_2).f0) ((rd_T50 l0 x8_2).f1) ((rd_T50 l0 x8_2).f2) ((rd_T50 l0 x8_2).f3) ((rd_T50 l0 x8_2).f4) ((rd_T50 l1 x9_2).f0) ((rd_T50 l1 x9_2).f1) ((rd_T50 l1 x9_2).f2) ((rd_T50 l1 x9_2).f3) ((rd_T50 l1 x9_2).f4) t116 _ A16.out).mono ?_
      rintro e w30 ⟨rfl, hb⟩
      refine ⟨_, rfl, ?_⟩
      have n0_ := aS (Kd.N_below (by exact nel <| HO_6.out) hb)
      have n1_ := aS (Kd.R_below (by exact rel <| HO_7.out) hb)
      have n2_ := aS (below_step (by first | exact bel HB.out | exact HB.out) hb)
      clear HO_6
      clear HO_7
      clear HB
      have HO_6 := n0_
      have HO_7 := n1_
      have HB := n2_
      clear n0_ n1_ n2_
      (try clear hb)
      (try clear hb2)
      (try clear hk)
      (try clear hi)
      refine hK.out _ _ ⟨(hup HB.out hw114_0), (hup HB.out hw114_1), (hup HB.out hw114_2), (hup HB.out hw114_3), (hup HB.out hw114_4), (hup HB.out hw115_0), (hup HB.out hw115_1), (hup HB.out hw115_2), (hup HB.out hw115_3), (hup HB.out hw115_4)⟩ (fun hHeld => ?_)
      clear hK K
      refine norm_ (a' := ?_) ?_ ?_
      rotate_left
      ·show Act.put _ (some 41) _ = _
       simp only [Act.put, sA, sZ, sS, i64_w, i32_w]
       rfl
      refine pure_ (i := 9) (N := some 10) (v := ?_) (a' := ?_) (bs 10 1023) rfl rfl (any_of HT_.out (by kernel_rfl)) (fun _ _ _ h => h) (Or.inl ⟨by rfl, ?_⟩) ?_ ?_
      rotate_left
      ·intro w'
       go_simp
       with_reducible rfl
      rotate_left
      ·simp only [Act.put, sA, sZ, sS, i64_w, i32_w]
       rfl
      refine done_ (done_of HT_.out (by kernel_rfl)) ?_
      try go_wp2
      have n0_ := aS (Kd.N_drew HO_6.out)
      have n1_ := aS (Kd.R_drew HO_7.out)
      have n2_ := aS (below_drew1 HB.out)
      clear HO_6
      clear HO_7
      clear HB
      have HO_6 := n0_
      have HO_7 := n1_
      have HB := n2_
      clear n0_ n1_ n2_
      obtain ⟨Ao32, co32, eo32⟩ := Kd.N_slice HO_6.out
      (first | subst eo32 | (injection eo32 with f1_ f2_ f3_; have f4_ := f1_.symm; have f5_ := f3_.symm; clear f1_ f2_ f3_; subst f4_; subst f5_))
      have p117 : 0 ≤ (x8_2 : Int) := of_decide_eq_true (by first | (with_reducible assumption) | assumption)
      have q117 : x8_2 < (t111.length : Int) := of_decide_eq_true (by first | (with_reducible assumption) | assumption)
      obtain ⟨ad117, A117_0, c117_0, e117, hx117_0, hl117_0, hi117_0⟩ := at_L6 (Kd.N_reads' HO_6.out).2.2 x8_2 p117 q117
      cases e117
      obtain ⟨ce117, hce117, hMe117, hcc117⟩ := Kd.N_get HO_6.out [] x8_2 p117 (by first | exact q117 | exact of_decide_eq_true (by first | (with_reducible assumption) | assumption) | (have e_ := (Kd.N_reads' HO_6.out).1; omega))
      obtain ⟨ua117_0, uc117_0, rfl, ul117_0, ge117_0⟩ := Kd.FK_slice_open hMe117
      have hv117_0 := hcc117 0 _ rfl
      rw [Nat.add_zero, show ((Kd.slice 3 (Kd.int .i64))).sz = 1 from rfl, Nat.mul_one] at hv117_0
      replace hv117_0 := Option.some.inj (hv117_0.symm.trans hx117_0)
      injection hv117_0 with hva_ hvn_ hvc_
      rw [hva_] at ge117_0
      rw [hvc_] at ul117_0
      have HL117_0 := aS (show Kd.V (Kd.int .i64) 3 _ w.heap.size _ _ (rd_L6 t111 x8_2) from Kd.V_mk ul117_0 ge117_0)
      clear hva_ hvn_ hvc_ ge117_0 ul117_0
      clear hcc117 hce117
      have HR117_0 := aS hi117_0
      have HC117_0 := aS hl117_0
      clear hi117_0 hl117_0
      replace p117 := eq_true p117
      replace q117 := eq_true q117
      have p118 : 0 ≤ (x9_2 : Int) := of_decide_eq_true (by first | (with_reducible assumption) | assumption)
      have q118 : x9_2 < ((rd_L6 t111 x8_2).length : Int) := of_decide_eq_true (by first | (with_reducible assumption) | assumption)
      obtain ⟨ad118, e118, hx118_0⟩ := Kd.at_int (by repeat (first | (with_reducible exact HR117_0.out) | (with_reducible apply Kd.C_alloc) | (with_reducible apply Kd.C_drewN) | (with_reducible apply Kd.C_drew) | exact HR117_0.out)) x9_2 p118 q118
      cases e118
      replace p118 := eq_true p118
      replace q118 := eq_true q118
      have p120 : 0 ≤ ((ji20) : Int) := of_decide_eq_true (by first | (with_reducible assumption) | assumption)
      have q120 : (ji20) < (t111.length : Int) := of_decide_eq_true (by first | (with_reducible assumption) | assumption)
      obtain ⟨ad120, A120_0, c120_0, e120, hx120_0, hl120_0, hi120_0⟩ := at_L6 (Kd.N_reads' HO_6.out).2.2 (ji20) p120 q120
      obtain rfl : ad117 = ad120 := (by injection e120)
      obtain ⟨ce120, hce120, hMe120, hcc120⟩ := Kd.N_get HO_6.out [] (ji20) p120 (by first | exact q120 | exact of_decide_eq_true (by first | (with_reducible assumption) | assumption) | (have e_ := (Kd.N_reads' HO_6.out).1; omega))
      obtain ⟨ua120_0, uc120_0, rfl, ul120_0, ge120_0⟩ := Kd.FK_slice_open hMe120
      have hv120_0 := hcc120 0 _ rfl
      rw [Nat.add_zero, show ((Kd.slice 3 (Kd.int .i64))).sz = 1 from rfl, Nat.mul_one] at hv120_0
      replace hv120_0 := Option.some.inj (hv120_0.symm.trans hx120_0)
      injection hv120_0 with hva_ hvn_ hvc_
      rw [hva_] at ge120_0
      rw [hvc_] at ul120_0
      have HL120_0 := aS (show Kd.V (Kd.int .i64) 3 _ w.heap.size _ _ (rd_L6 t111 (ji20)) from Kd.V_mk ul120_0 ge120_0)
      clear hva_ hvn_ hvc_ ge120_0 ul120_0
      clear hcc120 hce120
      have HR120_0 := aS hi120_0
      have HC120_0 := aS hl120_0
      clear hi120_0 hl120_0
      replace p120 := eq_true p120
      replace q120 := eq_true q120
      have p121 : 0 ≤ ((ji23) : Int) := of_decide_eq_true (by first | (with_reducible assumption) | assumption)
      have q121 : (ji23) < ((rd_L6 t111 (ji20)).length : Int) := of_decide_eq_true (by first | (with_reducible assumption) | assumption)
      obtain ⟨ad121, e121, hx121_0⟩ := Kd.at_int (by repeat (first | (with_reducible exact HR120_0.out) | (with_reducible apply Kd.C_alloc) | (with_reducible apply Kd.C_drewN) | (with_reducible apply Kd.C_drew) | exact HR120_0.out)) (ji23) p121 q121
      cases e121
      replace p121 := eq_true p121
      replace q121 := eq_true q121
      refine start_ (n := 20) (S := fun w' => w'.cell? (ad117.add (x8_2).toNat) = some (.slice (some ad118) (rd_L6 t111 x8_2).length c117_0) ∧ w'.cell? (ad118.add (x9_2).toNat) = some (.int .i64 (rd (rd_L6 t111 x8_2) x9_2)) ∧ w'.cell? (ad117.add ((ji20)).toNat) = some (.slice (some ad121) (rd_L6 t111 (ji20)).length c120_0) ∧ w'.cell? (ad121.add ((ji23)).toNat) = some (.int .i64 (rd (rd_L6 t111 (ji20)) (ji23)))) (ds := []) #[false, false, false, false, false, false, false, false, false, false, false, false, false, false, false, false, false, false, false, false] (by kernel_rfl) rfl rfl ⟨hx117_0, hx118_0, hx120_0, hx121_0⟩ (fun hHeld => ?_); refine with_tabW compare_Script.tab8 compare_Script.bits8 (fun HT_ HW_ => ?_)
      generalize w30.drew = w31 at HO_6 HO_7 HB HL117_0 HL120_0 HR117_0 HR120_0 hx117_0 hx118_0 hx120_0 hx121_0 hHeld ⊢
      refine pure_ (i := 0) (N := some 42) (v := ?_) (a' := ?_) (bs 20 1) rfl rfl (any_of HT_.out (by kernel_rfl)) (fun _ _ _ h => h) (Or.inl ⟨by rfl, ?_⟩) ?_ ?_
      rotate_left
      ·intro w'
       go_simp
       with_reducible rfl
      rotate_left
      ·simp only [Act.put, sA, sZ, sS, i64_w, i32_w]
       rfl
      refine pure_ (i := 1) (N := some 43) (v := ?_) (a' := ?_) (bs 20 3) rfl rfl (any_of HT_.out (by kernel_rfl)) (fun _ _ _ h => h) (Or.inl ⟨by rfl, ?_⟩) ?_ ?_
      rotate_left
      ·intro w'
       go_simp
       with_reducible rfl
      rotate_left
      ·simp only [Act.put, sA, sZ, sS, i64_w, i32_w]
       rfl
      refine pure_ (i := 2) (N := some 44) (v := ?_) (a' := ?_) (bs 20 7) rfl rfl (any_of HT_.out (by kernel_rfl)) (fun _ _ _ h => h) (Or.inl ⟨by rfl, ?_⟩) ?_ ?_
      rotate_left
      ·intro w'
       go_simp
       with_reducible rfl
      rotate_left
      ·simp only [Act.put, sA, sZ, sS, i64_w, i32_w]
       rfl
      refine pure_ (i := 4) (N := some 46) (v := ?_) (a' := ?_) (bs 20 23) rfl rfl (any_of HT_.out (by kernel_rfl)) (fun _ _ _ h => h) (Or.inl ⟨by rfl, ?_⟩) ?_ ?_
      rotate_left
      ·intro w'
       go_simp
       with_reducible rfl
      rotate_left
      ·simp only [Act.put, sA, sZ, sS, i64_w, i32_w]
       rfl
      refine pure_ (i := 7) (N := some 49) (v := ?_) (a' := ?_) (bs 20 151) rfl rfl (any_of HT_.out (by kernel_rfl)) (fun _ _ _ h => h) (Or.inl ⟨by rfl, ?_⟩) ?_ ?_
      rotate_left
      ·intro w'
       go_simp
       with_reducible rfl
      rotate_left
      ·simp only [Act.put, sA, sZ, sS, i64_w, i32_w]
       rfl
      refine pure_ (i := 9) (N := some 51) (v := ?_) (a' := ?_) (bs 20 663) rfl rfl (any_of HT_.out (by kernel_rfl)) (fun _ _ _ h => h) (Or.inl ⟨by rfl, ?_⟩) ?_ ?_
      rotate_left
      ·intro w'
       go_simp
       with_reducible rfl
      rotate_left
      ·simp only [Act.put, sA, sZ, sS, i64_w, i32_w]
       rfl
      refine pure_ (i := 10) (N := some 52) (v := ?_) (a' := ?_) (bs 20 1687) rfl rfl (any_of HT_.out (by kernel_rfl)) (fun _ _ _ h => h) (Or.inl ⟨by rfl, ?_⟩) ?_ ?_
      rotate_left
      ·intro w'
       go_simp
       with_reducible rfl
      rotate_left
      ·simp only [Act.put, sA, sZ, sS, i64_w, i32_w]
       rfl
      refine pure_ (i := 11) (N := some 53) (v := ?_) (a' := ?_) (bs 20 3735) rfl rfl (any_of HT_.out (by kernel_rfl)) (fun _ _ _ h => h) (Or.inl ⟨by rfl, ?_⟩) ?_ ?_
      rotate_left
      ·intro w'
       go_simp
       with_reducible rfl
      rotate_left
      ·simp only [Act.put, sA, sZ, sS, i64_w, i32_w]
       rfl
      refine pure_ (i := 12) (N := some 54) (v := ?_) (a' := ?_) (bs 20 7831) rfl rfl (any_of HT_.out (by kernel_rfl)) (fun _ _ _ h => h) (Or.inl ⟨by rfl, ?_⟩) ?_ ?_
      rotate_left
      ·intro w'
       go_simp
       with_reducible rfl
      rotate_left
      ·simp only [Act.put, sA, sZ, sS, i64_w, i32_w]
       rfl
      refine pure_ (i := 14) (N := some 56) (v := ?_) (a' := ?_) (bs 20 24215) rfl rfl (any_of HT_.out (by kernel_rfl)) (fun _ _ _ h => h) (Or.inl ⟨by rfl, ?_⟩) ?_ ?_
      rotate_left
      ·intro w'
       go_simp
       with_reducible rfl
      rotate_left
      ·simp only [Act.put, sA, sZ, sS, i64_w, i32_w]
       rfl
      refine pure_ (i := 15) (N := some 57) (v := ?_) (a' := ?_) (bs 20 56983) rfl rfl (any_of HT_.out (by kernel_rfl)) (fun _ _ _ h => h) (Or.inl ⟨by rfl, ?_⟩) ?_ ?_
      rotate_left
      ·intro w'
       go_simp
       with_reducible rfl
      rotate_left
      ·simp only [Act.put, sA, sZ, sS, i64_w, i32_w]
       rfl
      refine take_ (i := 3) (N := some 45) (v := ?_) (a' := ?_) (bs 20 56991) rfl rfl (take_ofW HT_.out HW_.out (by kernel_rfl)) (fun _ _ _ h => h) (Or.inl ⟨by rfl, ?_⟩) hHeld ?_ ?_
      rotate_left
      ·rintro w' ⟨s0, s1, s2, s3⟩
       go_simp
       with_reducible rfl
      rotate_left
      ·simp only [Act.put, sA, sZ, sS, i64_w, i32_w]
       rfl
      refine pure_ (i := 5) (N := some 47) (v := ?_) (a' := ?_) (bs 20 57023) rfl rfl (any_of HT_.out (by kernel_rfl)) (fun _ _ _ h => h) (Or.inl ⟨by rfl, ?_⟩) ?_ ?_
      rotate_left
      ·intro w'
       go_simp
       with_reducible rfl
      rotate_left
      ·simp only [Act.put, sA, sZ, sS, i64_w, i32_w]
       rfl
      refine take_ (i := 6) (N := some 48) (v := ?_) (a' := ?_) (bs 20 57087) rfl rfl (take_ofW HT_.out HW_.out (by kernel_rfl)) (fun _ _ _ h => h) (Or.inl ⟨by rfl, ?_⟩) hHeld ?_ ?_
      rotate_left
      ·rintro w' ⟨s0, s1, s2, s3⟩
       go_simp
       with_reducible rfl
      rotate_left
      ·simp only [Act.put, sA, sZ, sS, i64_w, i32_w]
       rfl
      refine take_ (i := 13) (N := some 55) (v := ?_) (a' := ?_) (bs 20 65279) rfl rfl (take_ofW HT_.out HW_.out (by kernel_rfl)) (fun _ _ _ h => h) (Or.inl ⟨by rfl, ?_⟩) hHeld ?_ ?_
      rotate_left
      ·rintro w' ⟨s0, s1, s2, s3⟩
       go_simp
       with_reducible rfl
      rotate_left
      ·simp only [Act.put, sA, sZ, sS, i64_w, i32_w]
       rfl
      refine pure_ (i := 16) (N := some 58) (v := ?_) (a' := ?_) (bs 20 130815) rfl rfl (any_of HT_.out (by kernel_rfl)) (fun _ _ _ h => h) (Or.inl ⟨by rfl, ?_⟩) ?_ ?_
      rotate_left
      ·intro w'
       go_simp
       with_reducible rfl
      rotate_left
      ·simp only [Act.put, sA, sZ, sS, i64_w, i32_w]
       rfl
      refine take_ (i := 17) (N := some 59) (v := ?_) (a' := ?_) (bs 20 261887) rfl rfl (take_ofW HT_.out HW_.out (by kernel_rfl)) (fun _ _ _ h => h) (Or.inl ⟨by rfl, ?_⟩) hHeld ?_ ?_
      rotate_left
      ·rintro w' ⟨s0, s1, s2, s3⟩
       go_simp
       with_reducible rfl
      rotate_left
      ·simp only [Act.put, sA, sZ, sS, i64_w, i32_w]
       rfl
      refine one_ (i := 8) (N := some 50) (bs 20 262143) rfl rfl (one_of HT_.out (by kernel_rfl)) (by decide) (fun K hK => ?_)
      refine goes_ Try.func30 (by kernel_rfl) rfl #[.int .i64 t116] (by rfl) rfl rfl (by (try simp only [List.map_toArray, List.map_cons, List.map_nil]); first | done | rfl | (simp only [List.length_drop, List.length_take]; rfl)) ?_
      with_reducible refine (compare_Cost.calls kj7 t116 t119 _ A19.out).mono ?_
      rintro e w' ⟨rfl, ⟨nd, rfl⟩⟩
      refine ⟨_, rfl, ?_⟩
      refine hK.out _ _ ⟨hHeld.1, hHeld.2.1, hHeld.2.2.1, hHeld.2.2.2⟩ (fun hHeld => ?_)
      clear hK K
      refine norm_ (a' := ?_) ?_ ?_
      rotate_left
      ·show Act.put _ (some 50) _ = _
       simp only [Act.put, sA, sZ, sS, i64_w, i32_w]
       rfl
      refine pure_ (i := 18) (N := some 60) (v := ?_) (a' := ?_) (bs 20 524287) rfl rfl (any_of HT_.out (by kernel_rfl)) (fun _ _ _ h => h) (Or.inl ⟨by rfl, ?_⟩) ?_ ?_
      rotate_left
      ·intro w'
       go_simp
       with_reducible rfl
      rotate_left
      ·simp only [Act.put, sA, sZ, sS, i64_w, i32_w]
       rfl
      refine pure_ (i := 19) (N := some 61) (v := ?_) (a' := ?_) (bs 20 1048575) rfl rfl (any_of HT_.out (by kernel_rfl)) (fun _ _ _ h => h) (Or.inl ⟨by rfl, ?_⟩) ?_ ?_
      rotate_left
      ·intro w'
       go_simp
       with_reducible rfl
      rotate_left
      ·simp only [Act.put, sA, sZ, sS, i64_w, i32_w]
       rfl
      refine done_ (done_of HT_.out (by kernel_rfl)) ?_
      try go_wp2_with (first | ((with_reducible refine gate_dst (N := 11) rfl ?_); (try (refine gate_guard (by rfl) ?_; dsimp only)); refine box_event ?hg (N := 11) ?hd (cs := #[.int .i64 0, .string (⟨#[]⟩ : ByteArray), .int .i64 0, .bool false, .bool false, .bool false]) (t := 63) ?hr ?_; (case hd => rfl); (case hg => rfl); (case hr => first | (go_simp; done) | (go_simp; rfl)); intro gb122 hg w33 hbox hb; have n0_ := aS (Kd.N_below (Kd.N_elderB (by exact nel <| HO_6.out) gb122 (Nat.le_of_eq hg.symm)) hb); have n1_ := aS (Kd.R_below (Kd.R_elderB (by exact rel <| HO_7.out) gb122 (Nat.le_of_eq hg.symm)) hb); have n2_ := aS (Kd.V_below (Kd.V_elderB (by exact vel <| HL117_0.out) gb122 (Nat.le_of_eq hg.symm)) hb); have n3_ := aS (Kd.V_below (Kd.V_elderB (by exact vel <| HL120_0.out) gb122 (Nat.le_of_eq hg.symm)) hb); have n4_ := aS (Kd.C_below (by repeat (first | (with_reducible exact HR117_0.out) | (with_reducible apply Kd.C_alloc) | (with_reducible apply Kd.C_drewN) | (with_reducible apply Kd.C_drew) | exact HR117_0.out)) hb); have n5_ := aS (Kd.C_below (by repeat (first | (with_reducible exact HR120_0.out) | (with_reducible apply Kd.C_alloc) | (with_reducible apply Kd.C_drewN) | (with_reducible apply Kd.C_drew) | exact HR120_0.out)) hb); have n6_ := aS (below_step (by first | exact bel HB.out | exact HB.out) hb); have n7_ := aS (hbox); have n8_ := aS ((by rw [hg]; exact (below_size (by first | exact bel HB.out | exact HB.out)) : w.heap.size ≤ gb122)); have n9_ := aS ((by rw [hg]; exact (below_size (by first | exact bel HB.out | exact HB.out)) : w.heap.size ≤ gb122)); clear HO_6; clear HO_7; clear HL117_0; clear HL120_0; clear HR117_0; clear HR120_0; clear HB; have HO_6 := n0_; have HO_7 := n1_; have HL117_0 := n2_; have HL120_0 := n3_; have HR117_0 := n4_; have HR120_0 := n5_; have HB := n6_; have BK122 := n7_; have GW122 := n8_; have GE122 := n9_; clear n0_ n1_ n2_ n3_ n4_ n5_ n6_ n7_ n8_ n9_; clear hb hbox hg; have hcz34_0 : w33.cell? ⟨gb122, 0, none⟩ = some (.int .i64 0) := (blk_cell BK122.out 0).trans rfl; have hcz34_1 : w33.cell? ⟨gb122, 1, none⟩ = some (.string (⟨#[]⟩ : ByteArray)) := (blk_cell BK122.out 1).trans rfl; have hcz34_2 : w33.cell? ⟨gb122, 2, none⟩ = some (.int .i64 0) := (blk_cell BK122.out 2).trans rfl; have hcz34_3 : w33.cell? ⟨gb122, 3, none⟩ = some (.bool false) := (blk_cell BK122.out 3).trans rfl; have hcz34_4 : w33.cell? ⟨gb122, 4, none⟩ = some (.bool false) := (blk_cell BK122.out 4).trans rfl; have hcz34_5 : w33.cell? ⟨gb122, 5, none⟩ = some (.bool false) := (blk_cell BK122.out 5).trans rfl; have hfz34_0 := blk_frozen BK122.out 0; have hfz34_1 := blk_frozen BK122.out 1; have hfz34_2 := blk_frozen BK122.out 2; have hfz34_3 := blk_frozen BK122.out 3; have hfz34_4 := blk_frozen BK122.out 4; have hfz34_5 := blk_frozen BK122.out 5) | ((with_reducible refine gate_builtin (b := .append) (xs := #[.tmp 71, .tmp 73]) rfl ?_); (try (refine gate_guard (by rfl) ?_; dsimp only)); at_builtin; refine Kd.R_append k63 (w0 := w) w.heap.size rfl (.tmp 71) (.tmp 73) 28 63 (.agg #[(.int .i64 0), (.string ⟨#[]⟩), (.int .i64 0), (.bool false), (.bool false), (.bool false)]) 40 rfl Try.underlying28 info63 rfl (by decide) (by omega) u7 x7_2 (⟨t116, (⟨(⟨#[]⟩ : ByteArray), 0, false, false, false⟩ : S50)⟩ : S63) [.int .i64 t116, .string (⟨#[]⟩ : ByteArray), .int .i64 0, .bool false, .bool false, .bool false] (fun k_ => k_ ≠ gb122) (fun _ => False) rfl (by first | (go_simp; done) | (go_simp; rfl)) ?aP (fun _ hk => hk.elim) ?aF ?aO ?aB ?aS ?aL ?_; (case aP => exact k63_mkM _ _ _ (⟨t116, (⟨(⟨#[]⟩ : ByteArray), 0, false, false, false⟩ : S50)⟩ : S63)); (case aB => exact (by repeat (first | (with_reducible first | exact HB.out | apply bA | apply bN | apply bD | refine below_set ?_ GE122.out) | exact HB.out))); (case aF => exact (fun k_ hk => Kd.freshB (g := gb122) (o := .cells #[.int .i64 t116, .string (⟨#[]⟩ : ByteArray), .int .i64 0, .bool false, .bool false, .bool false] 63 (0, 0)) (by (with_reducible repeat (first | refine blk_drewN ?_ _ | refine blk_drew ?_ | refine blk_alloc ?_ _)); refine blk_put (cs := #[.int .i64 t116, .string (⟨#[]⟩ : ByteArray), .int .i64 0, .bool false, .bool false, .bool false]) ?_ 5 _ rfl; (with_reducible repeat (first | refine blk_drewN ?_ _ | refine blk_drew ?_ | refine blk_alloc ?_ _)); refine blk_put (cs := #[.int .i64 t116, .string (⟨#[]⟩ : ByteArray), .int .i64 0, .bool false, .bool false, .bool false]) ?_ 4 _ rfl; (with_reducible repeat (first | refine blk_drewN ?_ _ | refine blk_drew ?_ | refine blk_alloc ?_ _)); refine blk_put (cs := #[.int .i64 t116, .string (⟨#[]⟩ : ByteArray), .int .i64 0, .bool false, .bool false, .bool false]) ?_ 3 _ rfl; (with_reducible repeat (first | refine blk_drewN ?_ _ | refine blk_drew ?_ | refine blk_alloc ?_ _)); refine blk_put (cs := #[.int .i64 t116, .string (⟨#[]⟩ : ByteArray), .int .i64 0, .bool false, .bool false, .bool false]) ?_ 2 _ rfl; (with_reducible repeat (first | refine blk_drewN ?_ _ | refine blk_drew ?_ | refine blk_alloc ?_ _)); refine blk_put (cs := #[.int .i64 t116, .string (⟨#[]⟩ : ByteArray), .int .i64 0, .bool false, .bool false, .bool false]) ?_ 1 _ rfl; (with_reducible repeat (first | refine blk_drewN ?_ _ | refine blk_drew ?_ | refine blk_alloc ?_ _)); refine blk_put (cs := #[.int .i64 0, .string (⟨#[]⟩ : ByteArray), .int .i64 0, .bool false, .bool false, .bool false]) ?_ 0 _ rfl; (with_reducible repeat (first | refine blk_drewN ?_ _ | refine blk_drew ?_ | refine blk_alloc ?_ _)); exact BK122.out) k_ hk)); (case aO => exact (by exact rel <| Kd.R_mono (Kd.R_far (p := ⟨gb122, 5, none⟩) (Kd.R_far (p := ⟨gb122, 4, none⟩) (Kd.R_far (p := ⟨gb122, 3, none⟩) (Kd.R_far (p := ⟨gb122, 2, none⟩) (Kd.R_far (p := ⟨gb122, 1, none⟩) (Kd.R_far (p := ⟨gb122, 0, none⟩) (Kd.R_mono HO_7.out (fun k_ hk => (⟨hk, hk.2⟩ : _ ∧ k_ ≠ gb122))) (fun _ hk => hk.2) (.int .i64 t116)) (fun _ hk => hk.2) (.string (⟨#[]⟩ : ByteArray))) (fun _ hk => hk.2) (.int .i64 0)) (fun _ hk => hk.2) (.bool false)) (fun _ hk => hk.2) (.bool false)) (fun _ hk => hk.2) (.bool false)) (fun _ hk => hk.1.2))); (case aS => exact (below_size (by repeat (first | (with_reducible first | exact HB.out | apply bA | apply bN | apply bD | refine below_set ?_ GE122.out) | exact HB.out)))); (case aL => have := LMc28.out; omega); intro v124 w35 ho hb hg hat; rw [← Ny123.out] at ho; have n0_ := aS (Kd.N_afterv (ok := (fun k_ => k_ ≠ gb122)) (by exact nel <| Kd.N_mono (Kd.N_far (p := ⟨gb122, 5, none⟩) (Kd.N_far (p := ⟨gb122, 4, none⟩) (Kd.N_far (p := ⟨gb122, 3, none⟩) (Kd.N_far (p := ⟨gb122, 2, none⟩) (Kd.N_far (p := ⟨gb122, 1, none⟩) (Kd.N_far (p := ⟨gb122, 0, none⟩) (Kd.N_mono HO_6.out (fun k_ hk => (⟨hk, hk.2⟩ : _ ∧ k_ ≠ gb122))) (fun _ hk => hk.2) (.int .i64 t116)) (fun _ hk => hk.2) (.string (⟨#[]⟩ : ByteArray))) (fun _ hk => hk.2) (.int .i64 0)) (fun _ hk => hk.2) (.bool false)) (fun _ hk => hk.2) (.bool false)) (fun _ hk => hk.2) (.bool false)) (fun _ hk => ⟨hk.1.2, hk.1.1⟩)) hg hat); have n1_ := aS (Kd.V_afterv (ok := (fun k_ => some k_ ≠ (.slice (some ad117) t111.length co32 : Value).ownBlock ∧ k_ ≠ gb122)) (by exact vel <| Kd.V_mono (Kd.V_far (p := ⟨gb122, 5, none⟩) (Kd.V_far (p := ⟨gb122, 4, none⟩) (Kd.V_far (p := ⟨gb122, 3, none⟩) (Kd.V_far (p := ⟨gb122, 2, none⟩) (Kd.V_far (p := ⟨gb122, 1, none⟩) (Kd.V_far (p := ⟨gb122, 0, none⟩) (Kd.V_mono HL117_0.out (fun k_ hk => (⟨hk, hk.2⟩ : _ ∧ k_ ≠ gb122))) (fun _ hk => hk.2) (.int .i64 t116)) (fun _ hk => hk.2) (.string (⟨#[]⟩ : ByteArray))) (fun _ hk => hk.2) (.int .i64 0)) (fun _ hk => hk.2) (.bool false)) (fun _ hk => hk.2) (.bool false)) (fun _ hk => hk.2) (.bool false)) (fun _ hk => ⟨⟨hk.1.1.2, hk.1.2⟩, hk.1.1.1⟩)) hg hat); have n2_ := aS (Kd.V_afterv (ok := (fun k_ => some k_ ≠ (.slice (some ad117) t111.length co32 : Value).ownBlock ∧ k_ ≠ gb122)) (by exact vel <| Kd.V_mono (Kd.V_far (p := ⟨gb122, 5, none⟩) (Kd.V_far (p := ⟨gb122, 4, none⟩) (Kd.V_far (p := ⟨gb122, 3, none⟩) (Kd.V_far (p := ⟨gb122, 2, none⟩) (Kd.V_far (p := ⟨gb122, 1, none⟩) (Kd.V_far (p := ⟨gb122, 0, none⟩) (Kd.V_mono HL120_0.out (fun k_ hk => (⟨hk, hk.2⟩ : _ ∧ k_ ≠ gb122))) (fun _ hk => hk.2) (.int .i64 t116)) (fun _ hk => hk.2) (.string (⟨#[]⟩ : ByteArray))) (fun _ hk => hk.2) (.int .i64 0)) (fun _ hk => hk.2) (.bool false)) (fun _ hk => hk.2) (.bool false)) (fun _ hk => hk.2) (.bool false)) (fun _ hk => ⟨⟨hk.1.1.2, hk.1.2⟩, hk.1.1.1⟩)) hg hat); have n3_ := aS (blk_grown (g := gb122) (o := .cells #[.int .i64 t116, .string (⟨#[]⟩ : ByteArray), .int .i64 0, .bool false, .bool false, .bool false] 63 (0, 0)) (by (with_reducible repeat (first | refine blk_drewN ?_ _ | refine blk_drew ?_ | refine blk_alloc ?_ _)); refine blk_put (cs := #[.int .i64 t116, .string (⟨#[]⟩ : ByteArray), .int .i64 0, .bool false, .bool false, .bool false]) ?_ 5 _ rfl; (with_reducible repeat (first | refine blk_drewN ?_ _ | refine blk_drew ?_ | refine blk_alloc ?_ _)); refine blk_put (cs := #[.int .i64 t116, .string (⟨#[]⟩ : ByteArray), .int .i64 0, .bool false, .bool false, .bool false]) ?_ 4 _ rfl; (with_reducible repeat (first | refine blk_drewN ?_ _ | refine blk_drew ?_ | refine blk_alloc ?_ _)); refine blk_put (cs := #[.int .i64 t116, .string (⟨#[]⟩ : ByteArray), .int .i64 0, .bool false, .bool false, .bool false]) ?_ 3 _ rfl; (with_reducible repeat (first | refine blk_drewN ?_ _ | refine blk_drew ?_ | refine blk_alloc ?_ _)); refine blk_put (cs := #[.int .i64 t116, .string (⟨#[]⟩ : ByteArray), .int .i64 0, .bool false, .bool false, .bool false]) ?_ 2 _ rfl; (with_reducible repeat (first | refine blk_drewN ?_ _ | refine blk_drew ?_ | refine blk_alloc ?_ _)); refine blk_put (cs := #[.int .i64 t116, .string (⟨#[]⟩ : ByteArray), .int .i64 0, .bool false, .bool false, .bool false]) ?_ 1 _ rfl; (with_reducible repeat (first | refine blk_drewN ?_ _ | refine blk_drew ?_ | refine blk_alloc ?_ _)); refine blk_put (cs := #[.int .i64 0, .string (⟨#[]⟩ : ByteArray), .int .i64 0, .bool false, .bool false, .bool false]) ?_ 0 _ rfl; (with_reducible repeat (first | refine blk_drewN ?_ _ | refine blk_drew ?_ | refine blk_alloc ?_ _)); exact BK122.out) hg (Kd.R_away HO_7.out (fun _ hk => hk.2))); have n4_ := aS (hb); have n5_ := aS (ho); clear HO_6; clear HL117_0; clear HL120_0; clear BK122; clear HB; clear HO_7; have HO_6 := n0_; have HL117_0 := n1_; have HL120_0 := n2_; have BK122 := n3_; have HB := n4_; have HO125 := n5_; clear n0_ n1_ n2_ n3_ n4_ n5_; clear ho hb hg hat))
      go_step3
      refine ⟨rfl, ?_⟩
      go_step
      go_roundg kj7
      case measure => have := HJ2.out; have := HK2.out; have := HJ7.out; omega
      case rel => exact ⟨(y123), (ji20), (ji23), (by first | rfl | (simp; done) | (simp only [← hji20] <;> (first | rfl | simp)) | (simp [*]; done)), (by first | rfl | (simp; done) | (simp only [← hji23] <;> (first | rfl | simp)) | (simp [*]; done)), H', ⟨by have := HJ2.out; have := HK2.out; have := HJ7.out; omega⟩, ⟨by exact nel <| Kd.N_mono HO_6.out (fun _ hk => hk.2)⟩, ⟨by exact rel <| Kd.R_mono HO125.out (fun _ hk => trivial)⟩, ⟨by repeat (first | (with_reducible first | exact HB.out | apply bA | apply bN | apply bD | refine below_set ?_ GE122.out) | exact HB.out)⟩⟩
     clear HC10
     try clear c1
     try clear p1
     try clear q1
     try clear hx1
     try clear c2
     try clear p2
     try clear c3
     try clear p6
     try clear c11
     try clear p11
     try clear q11
     try clear hx11
     try clear c12
     try clear p12
     try clear q12
     try clear hx12
     try clear c13
     try clear c14
     try clear c15
     try clear c17
     try clear c18
     try clear c21
     try clear c22
     try clear c24
     try clear c25
     try clear c26
     try clear c26b0
     try clear c26b1
     try clear c30
     try clear c35
     try clear c36
     try clear hcz42_0
     try clear hcz42_1
     try clear hcz42_2
     try clear hcz42_3
     try clear hcz42_4
     try clear hcz42_5
     try clear hfz42_0
     try clear hfz42_1
     try clear hfz42_2
     try clear hfz42_3
     try clear hfz42_4
     try clear hfz42_5
     try clear hx114_0
     try clear hx114_1
     try clear hx114_2
     try clear hx114_3
     try clear hx114_4
     try clear hx115_0
     try clear hx115_1
     try clear hx115_2
     try clear hx115_3
     try clear hx115_4
     try clear hx117_0
     try clear hx118_0
     try clear hx120_0
     try clear hx121_0
     try clear hx126_0
     try clear hx126_1
     try clear hx126_2
     try clear hx126_3
     try clear hx126_4
     try clear p114
     try clear p115
     try clear p117
     try clear p118
     try clear p120
     try clear p121
     try clear p126
     try clear q114
     try clear q115
     try clear q117
     try clear q118
     try clear q120
     try clear q121
     try clear q126
     obtain ⟨kq, x7_9, x8_9, x9_9, rfl, rfl, HA, HJ9, HO_6, HO_7, HB⟩ := hcut
     cases kq with
     | zero => exact absurd HA.out (by simp [compare_Script.j3])
     | succ kj9 =>
      have H := HA.out
      clear HA
      simp only [compare_Script.j3] at H
      have HC48 := aS H
      clear H
      go_upto_region 14 with (fail)
      go_cut [102] (fun v102 wc => ∃ (kq : Nat) (x102_47 : Bool), v102 = .bool x102_47 ∧ Aside0 (compare_Script.j4 kq l0 l1 t111 x7_9 x8_9 x9_9 x102_47 = some (r1, r2)) ∧ Aside0 (kq ≤ kj9) ∧ Aside0 (Kd.N (Kd.slice 3 (Kd.int .i64)) 45 wc w.heap.size (fun k_ => some k_ ≠ (u7 : Value).ownBlock) v112 t111) ∧ Aside0 (Kd.R k63 63 wc w.heap.size (fun _ => True) u7 x7_9) ∧ Aside0 (Below w.heap.size w wc))
      case first =>
       have H := HC48.out
       clear HC48
       by_cases c49 : x9_9 < (l1.length : Int)
       rotate_left
       ·rw [if_neg c49] at H
        have c49b0 : decide (x9_9 < (l1.length : Int)) = false := decide_eq_false c49
        clear c49
        (first | rw [c49b0] | (simp only [i64_w, i32_w]; rw [c49b0]) | skip)
        have H' := aS H
        clear H
        try go_wp2
        have n0_ := aS (Kd.N_drew HO_6.out)
        have n1_ := aS (Kd.R_drew HO_7.out)
        have n2_ := aS (below_drew1 HB.out)
        clear HO_6
        clear HO_7
        clear HB
        have HO_6 := n0_
        have HO_7 := n1_
        have HB := n2_
        clear n0_ n1_ n2_
        refine start_ (n := 24) (S := fun w' => True) (ds := []) #[false, false, false, false, false, false, false, false, false, false, false, false, false, false, false, false, false, false, false, false, false, false, false, false] (by kernel_rfl) rfl rfl trivial (fun hHeld => ?_); refine with_tabW compare_Script.tab14 compare_Script.bits14 (fun HT_ HW_ => ?_)
        generalize wc.drew = w60 at HO_6 HO_7 HB hHeld ⊢
        refine pure_ (i := 0) (N := some 79) (v := ?_) (a' := ?_) (bs 24 1) rfl rfl (any_of HT_.out (by kernel_rfl)) (fun _ _ _ h => h) (Or.inl ⟨by rfl, ?_⟩) ?_ ?_
        rotate_left
        ·intro w'
         go_simp
         with_reducible rfl
        rotate_left
        ·simp only [Act.put, sA, sZ, sS, i64_w, i32_w]
         rfl
        refine pure_ (i := 1) (N := some 80) (v := ?_) (a' := ?_) (bs 24 3) rfl rfl (any_of HT_.out (by kernel_rfl)) (fun _ _ _ h => h) (Or.inl ⟨by rfl, ?_⟩) ?_ ?_
        rotate_left
        ·intro w'
         go_simp
         with_reducible rfl
        rotate_left
        ·simp only [Act.put, sA, sZ, sS, i64_w, i32_w]
         rfl
        refine pure_ (i := 2) (N := some 81) (v := ?_) (a' := ?_) (bs 24 7) rfl rfl (any_of HT_.out (by kernel_rfl)) (fun _ _ _ h => h) (Or.inl ⟨by rfl, ?_⟩) ?_ ?_
        rotate_left
        ·intro w'
         go_simp
         with_reducible rfl
        rotate_left
        ·simp only [Act.put, sA, sZ, sS, i64_w, i32_w]
         rfl
        refine pure_ (i := 3) (N := some 82) (v := ?_) (a' := ?_) (bs 24 15) rfl rfl (any_of HT_.out (by kernel_rfl)) (fun _ _ _ h => h) (Or.inl ⟨by rfl, ?_⟩) ?_ ?_
        rotate_left
        ·intro w'
         go_simp
         with_reducible rfl
        rotate_left
        ·simp only [Act.put, sA, sZ, sS, i64_w, i32_w]
         rfl
        refine pure_ (i := 4) (N := some 83) (v := ?_) (a' := ?_) (bs 24 31) rfl rfl (any_of HT_.out (by kernel_rfl)) (fun _ _ _ h => h) (Or.inl ⟨by rfl, ?_⟩) ?_ ?_
        rotate_left
        ·intro w'
         go_simp
         with_reducible rfl
        rotate_left
        ·simp only [Act.put, sA, sZ, sS, i64_w, i32_w]
         rfl
        refine pure_ (i := 5) (N := some 84) (v := undef) (a' := ?_) (bs 24 63) rfl rfl (any_of HT_.out (by kernel_rfl)) (fun _ _ _ h => h) (Or.inr ⟨by rfl, rfl⟩) ?_ ?_
        rotate_left
        ·simp only [Act.put, sA, sZ, sS, i64_w, i32_w]
         rfl
        refine pure_ (i := 6) (N := some 85) (v := undef) (a' := ?_) (bs 24 127) rfl rfl (any_of HT_.out (by kernel_rfl)) (fun _ _ _ h => h) (Or.inr ⟨by rfl, rfl⟩) ?_ ?_
        rotate_left
        ·simp only [Act.put, sA, sZ, sS, i64_w, i32_w]
         rfl
        refine pure_ (i := 7) (N := some 86) (v := undef) (a' := ?_) (bs 24 255) rfl rfl (any_of HT_.out (by kernel_rfl)) (fun _ _ _ h => h) (Or.inr ⟨by rfl, rfl⟩) ?_ ?_
        rotate_left
        ·simp only [Act.put, sA, sZ, sS, i64_w, i32_w]
         rfl
        refine pure_ (i := 8) (N := some 87) (v := undef) (a' := ?_) (bs 24 511) rfl rfl (any_of HT_.out (by kernel_rfl)) (fun _ _ _ h => h) (Or.inr ⟨by rfl, rfl⟩) ?_ ?_
        rotate_left
        ·simp only [Act.put, sA, sZ, sS, i64_w, i32_w]
         rfl
        refine pure_ (i := 9) (N := some 88) (v := undef) (a' := ?_) (bs 24 1023) rfl rfl (any_of HT_.out (by kernel_rfl)) (fun _ _ _ h => h) (Or.inr ⟨by rfl, rfl⟩) ?_ ?_
        rotate_left
        ·simp only [Act.put, sA, sZ, sS, i64_w, i32_w]
         rfl
        refine pure_ (i := 10) (N := some 89) (v := undef) (a' := ?_) (bs 24 2047) rfl rfl (any_of HT_.out (by kernel_rfl)) (fun _ _ _ h => h) (Or.inr ⟨by rfl, rfl⟩) ?_ ?_
        rotate_left
        ·simp only [Act.put, sA, sZ, sS, i64_w, i32_w]
         rfl
        refine pure_ (i := 11) (N := some 90) (v := undef) (a' := ?_) (bs 24 4095) rfl rfl (any_of HT_.out (by kernel_rfl)) (fun _ _ _ h => h) (Or.inr ⟨by rfl, rfl⟩) ?_ ?_
        rotate_left
        ·simp only [Act.put, sA, sZ, sS, i64_w, i32_w]
         rfl
        refine pure_ (i := 12) (N := some 91) (v := undef) (a' := ?_) (bs 24 8191) rfl rfl (any_of HT_.out (by kernel_rfl)) (fun _ _ _ h => h) (Or.inr ⟨by rfl, rfl⟩) ?_ ?_
        rotate_left
        ·simp only [Act.put, sA, sZ, sS, i64_w, i32_w]
         rfl
        refine pure_ (i := 13) (N := some 92) (v := undef) (a' := ?_) (bs 24 16383) rfl rfl (any_of HT_.out (by kernel_rfl)) (fun _ _ _ h => h) (Or.inr ⟨by rfl, rfl⟩) ?_ ?_
        rotate_left
        ·simp only [Act.put, sA, sZ, sS, i64_w, i32_w]
         rfl
        refine pure_ (i := 14) (N := some 93) (v := undef) (a' := ?_) (bs 24 32767) rfl rfl (any_of HT_.out (by kernel_rfl)) (fun _ _ _ h => h) (Or.inr ⟨by rfl, rfl⟩) ?_ ?_
        rotate_left
        ·simp only [Act.put, sA, sZ, sS, i64_w, i32_w]
         rfl
        refine pure_ (i := 15) (N := some 94) (v := undef) (a' := ?_) (bs 24 65535) rfl rfl (any_of HT_.out (by kernel_rfl)) (fun _ _ _ h => h) (Or.inr ⟨by rfl, rfl⟩) ?_ ?_
        rotate_left
        ·simp only [Act.put, sA, sZ, sS, i64_w, i32_w]
         rfl
        refine pure_ (i := 16) (N := some 95) (v := undef) (a' := ?_) (bs 24 131071) rfl rfl (any_of HT_.out (by kernel_rfl)) (fun _ _ _ h => h) (Or.inr ⟨by rfl, rfl⟩) ?_ ?_
        rotate_left
        ·simp only [Act.put, sA, sZ, sS, i64_w, i32_w]
         rfl
        refine pure_ (i := 17) (N := some 96) (v := undef) (a' := ?_) (bs 24 262143) rfl rfl (any_of HT_.out (by kernel_rfl)) (fun _ _ _ h => h) (Or.inr ⟨by rfl, rfl⟩) ?_ ?_
        rotate_left
        ·simp only [Act.put, sA, sZ, sS, i64_w, i32_w]
         rfl
        refine pure_ (i := 18) (N := some 97) (v := undef) (a' := ?_) (bs 24 524287) rfl rfl (any_of HT_.out (by kernel_rfl)) (fun _ _ _ h => h) (Or.inr ⟨by rfl, rfl⟩) ?_ ?_
        rotate_left
        ·simp only [Act.put, sA, sZ, sS, i64_w, i32_w]
         rfl
        refine pure_ (i := 19) (N := some 98) (v := undef) (a' := ?_) (bs 24 1048575) rfl rfl (any_of HT_.out (by kernel_rfl)) (fun _ _ _ h => h) (Or.inr ⟨by rfl, rfl⟩) ?_ ?_
        rotate_left
        ·simp only [Act.put, sA, sZ, sS, i64_w, i32_w]
         rfl
        refine pure_ (i := 20) (N := some 99) (v := undef) (a' := ?_) (bs 24 2097151) rfl rfl (any_of HT_.out (by kernel_rfl)) (fun _ _ _ h => h) (Or.inr ⟨by rfl, rfl⟩) ?_ ?_
        rotate_left
        ·simp only [Act.put, sA, sZ, sS, i64_w, i32_w]
         rfl
        refine pure_ (i := 21) (N := some 100) (v := undef) (a' := ?_) (bs 24 4194303) rfl rfl (any_of HT_.out (by kernel_rfl)) (fun _ _ _ h => h) (Or.inr ⟨by rfl, rfl⟩) ?_ ?_
        rotate_left
        ·simp only [Act.put, sA, sZ, sS, i64_w, i32_w]
         rfl
        refine pure_ (i := 22) (N := some 101) (v := undef) (a' := ?_) (bs 24 8388607) rfl rfl (any_of HT_.out (by kernel_rfl)) (fun _ _ _ h => h) (Or.inr ⟨by rfl, rfl⟩) ?_ ?_
        rotate_left
        ·simp only [Act.put, sA, sZ, sS, i64_w, i32_w]
         rfl
        refine pure_ (i := 23) (N := some 102) (v := ?_) (a' := ?_) (bs 24 16777215) rfl rfl (any_of HT_.out (by kernel_rfl)) (fun _ _ _ h => h) (Or.inl ⟨by rfl, ?_⟩) ?_ ?_
        rotate_left
        ·intro w'
         go_simp
         with_reducible rfl
        rotate_left
        ·simp only [Act.put, sA, sZ, sS, i64_w, i32_w]
         rfl
        refine done_ (done_of HT_.out (by kernel_rfl)) ?_
        try go_wp2
        go_meet
        case rel => exact ⟨_, (false), (by first | rfl | (simp; done) | (simp [*]; done)), H', ⟨by have := HJ2.out; have := HK2.out; have := HJ7.out; have := HJ9.out; first | omega | exact Nat.le_refl _⟩, ⟨by exact nel <| HO_6.out⟩, ⟨by exact rel <| HO_7.out⟩, ⟨by first | exact bel HB.out | exact HB.out⟩⟩
       rw [if_pos c49] at H
       have c49b0 : decide (x9_9 < (l1.length : Int)) = true := decide_eq_true c49
       clear c49
       (first | rw [c49b0] | (simp only [i64_w, i32_w]; rw [c49b0]) | skip)
       by_cases c50 : 0 ≤ x8_9
       rotate_left
       ·rw [if_neg c50] at H
        exact absurd H (by simp)
       rw [if_pos c50] at H
       have c50b0 : decide (0 ≤ x8_9) = true := decide_eq_true c50
       clear c50
       by_cases c51 : x8_9 < (t111.length : Int)
       rotate_left
       ·rw [if_neg c51] at H
        exact absurd H (by simp)
       rw [if_pos c51] at H
       have c51b0 : decide (x8_9 < (t111.length : Int)) = true := decide_eq_true c51
       clear c51
       by_cases c52 : 0 ≤ x9_9
       rotate_left
       ·rw [if_neg c52] at H
        exact absurd H (by simp)
       rw [if_pos c52] at H
       have c52b0 : decide (0 ≤ x9_9) = true := decide_eq_true c52
       clear c52
       by_cases c53 : x9_9 < ((rd_L6 t111 x8_9).length : Int)
       rotate_left
       ·rw [if_neg c53] at H
        exact absurd H (by simp)
       rw [if_pos c53] at H
       have c53b0 : decide (x9_9 < ((rd_L6 t111 x8_9).length : Int)) = true := decide_eq_true c53
       clear c53
       replace H := Option.bind_eq_some_iff.mp H
       obtain ⟨t132, A540, H⟩ := H
       replace H : (if 0 ≤ (wrap64 (x9_9 + 1)) then (if (wrap64 (x9_9 + 1)) < ((rd_L6 t111 x8_9).length : Int) then (compare_Script.j4 kj9 l0 l1 t111 x7_9 x8_9 x9_9 ((rd (rd_L6 t111 x8_9) x9_9) == (wrap64 (t132 + (rd (rd_L6 t111 x8_9) (wrap64 (x9_9 + 1))))))) else (none)) else (none)) = some (r1, r2) := H
       have A54 := aS A540
       clear A540
       obtain ⟨ji55, hji55⟩ : ∃ j_ : Int, (wrap64 (x9_9 + 1)) = j_ := ⟨_, rfl⟩
       replace H : (if 0 ≤ (ji55) then (if (ji55) < ((rd_L6 t111 x8_9).length : Int) then (compare_Script.j4 kj9 l0 l1 t111 x7_9 x8_9 x9_9 ((rd (rd_L6 t111 x8_9) x9_9) == (wrap64 (t132 + (rd (rd_L6 t111 x8_9) (ji55)))))) else (none)) else (none)) = some (r1, r2) := by first | (rw [hji55] at H; exact H) | (simp only [hji55] at H ⊢; exact H)
       (try rw [hji55] at A54)
       have hji55w : (IntKind.i64.wrap (x9_9 + 1)) = ji55 := (i64_w _).trans hji55
       by_cases c56 : 0 ≤ (ji55)
       rotate_left
       ·rw [if_neg c56] at H
        exact absurd H (by simp)
       rw [if_pos c56] at H
       have c56b0 : decide (0 ≤ (ji55)) = true := decide_eq_true c56
       clear c56
       by_cases c57 : (ji55) < ((rd_L6 t111 x8_9).length : Int)
       rotate_left
       ·rw [if_neg c57] at H
        exact absurd H (by simp)
       rw [if_pos c57] at H
       have c57b0 : decide ((ji55) < ((rd_L6 t111 x8_9).length : Int)) = true := decide_eq_true c57
       clear c57
       have H' := aS H
       clear H
       try go_wp2
       have n0_ := aS (Kd.N_drew HO_6.out)
       have n1_ := aS (Kd.R_drew HO_7.out)
       have n2_ := aS (below_drew1 HB.out)
       clear HO_6
       clear HO_7
       clear HB
       have HO_6 := n0_
       have HO_7 := n1_
       have HB := n2_
       clear n0_ n1_ n2_
       obtain ⟨Ao59, co59, eo59⟩ := Kd.N_slice HO_6.out
       (first | subst eo59 | (injection eo59 with f1_ f2_ f3_; have f4_ := f1_.symm; have f5_ := f3_.symm; clear f1_ f2_ f3_; subst f4_; subst f5_))
       have p130 : 0 ≤ (x8_9 : Int) := of_decide_eq_true (by first | (with_reducible assumption) | assumption)
       have q130 : x8_9 < (t111.length : Int) := of_decide_eq_true (by first | (with_reducible assumption) | assumption)
       obtain ⟨ad130, A130_0, c130_0, e130, hx130_0, hl130_0, hi130_0⟩ := at_L6 (Kd.N_reads' HO_6.out).2.2 x8_9 p130 q130
       cases e130
       obtain ⟨ce130, hce130, hMe130, hcc130⟩ := Kd.N_get HO_6.out [] x8_9 p130 (by first | exact q130 | exact of_decide_eq_true (by first | (with_reducible assumption) | assumption) | (have e_ := (Kd.N_reads' HO_6.out).1; omega))
       obtain ⟨ua130_0, uc130_0, rfl, ul130_0, ge130_0⟩ := Kd.FK_slice_open hMe130
       have hv130_0 := hcc130 0 _ rfl
       rw [Nat.add_zero, show ((Kd.slice 3 (Kd.int .i64))).sz = 1 from rfl, Nat.mul_one] at hv130_0
       replace hv130_0 := Option.some.inj (hv130_0.symm.trans hx130_0)
       injection hv130_0 with hva_ hvn_ hvc_
       rw [hva_] at ge130_0
       rw [hvc_] at ul130_0
       have HL130_0 := aS (show Kd.V (Kd.int .i64) 3 _ w.heap.size _ _ (rd_L6 t111 x8_9) from Kd.V_mk ul130_0 ge130_0)
       clear hva_ hvn_ hvc_ ge130_0 ul130_0
       clear hcc130 hce130
       have HR130_0 := aS hi130_0
       have HC130_0 := aS hl130_0
       clear hi130_0 hl130_0
       replace p130 := eq_true p130
       replace q130 := eq_true q130
       have p131 : 0 ≤ (x9_9 : Int) := of_decide_eq_true (by first | (with_reducible assumption) | assumption)
       have q131 : x9_9 < ((rd_L6 t111 x8_9).length : Int) := of_decide_eq_true (by first | (with_reducible assumption) | assumption)
       obtain ⟨ad131, e131, hx131_0⟩ := Kd.at_int (by repeat (first | (with_reducible exact HR130_0.out) | (with_reducible apply Kd.C_alloc) | (with_reducible apply Kd.C_drewN) | (with_reducible apply Kd.C_drew) | exact HR130_0.out)) x9_9 p131 q131
       cases e131
       replace p131 := eq_true p131
       replace q131 := eq_true q131
       have p133 : 0 ≤ (x8_9 : Int) := of_decide_eq_true (by first | (with_reducible assumption) | assumption)
       have q133 : x8_9 < (t111.length : Int) := of_decide_eq_true (by first | (with_reducible assumption) | assumption)
       obtain ⟨ad133, A133_0, c133_0, e133, hx133_0, hl133_0, hi133_0⟩ := at_L6 (Kd.N_reads' HO_6.out).2.2 x8_9 p133 q133
       obtain rfl : ad130 = ad133 := (by injection e133)
       obtain ⟨ce133, hce133, hMe133, hcc133⟩ := Kd.N_get HO_6.out [] x8_9 p133 (by first | exact q133 | exact of_decide_eq_true (by first | (with_reducible assumption) | assumption) | (have e_ := (Kd.N_reads' HO_6.out).1; omega))
       obtain ⟨ua133_0, uc133_0, rfl, ul133_0, ge133_0⟩ := Kd.FK_slice_open hMe133
       have hv133_0 := hcc133 0 _ rfl
       rw [Nat.add_zero, show ((Kd.slice 3 (Kd.int .i64))).sz = 1 from rfl, Nat.mul_one] at hv133_0
       replace hv133_0 := Option.some.inj (hv133_0.symm.trans hx133_0)
       injection hv133_0 with hva_ hvn_ hvc_
       rw [hva_] at ge133_0
       rw [hvc_] at ul133_0
       have HL133_0 := aS (show Kd.V (Kd.int .i64) 3 _ w.heap.size _ _ (rd_L6 t111 x8_9) from Kd.V_mk ul133_0 ge133_0)
       clear hva_ hvn_ hvc_ ge133_0 ul133_0
       clear hcc133 hce133
       have HR133_0 := aS hi133_0
       have HC133_0 := aS hl133_0
       clear hi133_0 hl133_0
       replace p133 := eq_true p133
       replace q133 := eq_true q133
       have ea_ := Option.some.inj (hx130_0.symm.trans hx133_0)
       injection ea_ with ea_ en_ ec_
       subst ea_
       subst ec_
       clear en_
       have p134 : 0 ≤ ((ji55) : Int) := of_decide_eq_true (by first | (with_reducible assumption) | assumption)
       have q134 : (ji55) < ((rd_L6 t111 x8_9).length : Int) := of_decide_eq_true (by first | (with_reducible assumption) | assumption)
       obtain ⟨ad134, e134, hx134_0⟩ := Kd.at_int (by repeat (first | (with_reducible exact HR133_0.out) | (with_reducible apply Kd.C_alloc) | (with_reducible apply Kd.C_drewN) | (with_reducible apply Kd.C_drew) | exact HR133_0.out)) (ji55) p134 q134
       cases e134
       replace p134 := eq_true p134
       replace q134 := eq_true q134
       refine start_ (n := 24) (S := fun w' => w'.cell? (ad130.add (x8_9).toNat) = some (.slice (some ad131) (rd_L6 t111 x8_9).length c130_0) ∧ w'.cell? (ad131.add (x9_9).toNat) = some (.int .i64 (rd (rd_L6 t111 x8_9) x9_9)) ∧ w'.cell? (ad130.add (x8_9).toNat) = some (.slice (some ad131) (rd_L6 t111 x8_9).length c130_0) ∧ w'.cell? (ad131.add ((ji55)).toNat) = some (.int .i64 (rd (rd_L6 t111 x8_9) (ji55)))) (ds := []) #[false, false, false, false, false, false, false, false, false, false, false, false, false, false, false, false, false, false, false, false, false, false, false, false] (by kernel_rfl) rfl rfl ⟨hx130_0, hx131_0, hx133_0, hx134_0⟩ (fun hHeld => ?_); refine with_tabW compare_Script.tab14 compare_Script.bits14 (fun HT_ HW_ => ?_)
       generalize wc.drew = w58 at HO_6 HO_7 HB HL130_0 HL133_0 HR130_0 HR133_0 hx130_0 hx131_0 hx133_0 hx134_0 hHeld ⊢
       refine pure_ (i := 0) (N := some 79) (v := ?_) (a' := ?_) (bs 24 1) rfl rfl (any_of HT_.out (by kernel_rfl)) (fun _ _ _ h => h) (Or.inl ⟨by rfl, ?_⟩) ?_ ?_
       rotate_left
       ·intro w'
        go_simp
        with_reducible rfl
       rotate_left
       ·simp only [Act.put, sA, sZ, sS, i64_w, i32_w]
        rfl
       refine pure_ (i := 1) (N := some 80) (v := ?_) (a' := ?_) (bs 24 3) rfl rfl (any_of HT_.out (by kernel_rfl)) (fun _ _ _ h => h) (Or.inl ⟨by rfl, ?_⟩) ?_ ?_
       rotate_left
       ·intro w'
        go_simp
        with_reducible rfl
       rotate_left
       ·simp only [Act.put, sA, sZ, sS, i64_w, i32_w]
        rfl
       refine pure_ (i := 2) (N := some 81) (v := ?_) (a' := ?_) (bs 24 7) rfl rfl (any_of HT_.out (by kernel_rfl)) (fun _ _ _ h => h) (Or.inl ⟨by rfl, ?_⟩) ?_ ?_
       rotate_left
       ·intro w'
        go_simp
        with_reducible rfl
       rotate_left
       ·simp only [Act.put, sA, sZ, sS, i64_w, i32_w]
        rfl
       refine pure_ (i := 3) (N := some 82) (v := ?_) (a' := ?_) (bs 24 15) rfl rfl (any_of HT_.out (by kernel_rfl)) (fun _ _ _ h => h) (Or.inl ⟨by rfl, ?_⟩) ?_ ?_
       rotate_left
       ·intro w'
        go_simp
        with_reducible rfl
       rotate_left
       ·simp only [Act.put, sA, sZ, sS, i64_w, i32_w]
        rfl
       refine pure_ (i := 4) (N := some 83) (v := ?_) (a' := ?_) (bs 24 31) rfl rfl (any_of HT_.out (by kernel_rfl)) (fun _ _ _ h => h) (Or.inl ⟨by rfl, ?_⟩) ?_ ?_
       rotate_left
       ·intro w'
        go_simp
        with_reducible rfl
       rotate_left
       ·simp only [Act.put, sA, sZ, sS, i64_w, i32_w]
        rfl
       refine pure_ (i := 5) (N := some 84) (v := ?_) (a' := ?_) (bs 24 63) rfl rfl (any_of HT_.out (by kernel_rfl)) (fun _ _ _ h => h) (Or.inl ⟨by rfl, ?_⟩) ?_ ?_
       rotate_left
       ·intro w'
        go_simp
        with_reducible rfl
       rotate_left
       ·simp only [Act.put, sA, sZ, sS, i64_w, i32_w]
        rfl
       refine pure_ (i := 6) (N := some 85) (v := ?_) (a' := ?_) (bs 24 127) rfl rfl (any_of HT_.out (by kernel_rfl)) (fun _ _ _ h => h) (Or.inl ⟨by rfl, ?_⟩) ?_ ?_
       rotate_left
       ·intro w'
        go_simp
        with_reducible rfl
       rotate_left
       ·simp only [Act.put, sA, sZ, sS, i64_w, i32_w]
        rfl
       refine pure_ (i := 7) (N := some 86) (v := ?_) (a' := ?_) (bs 24 255) rfl rfl (any_of HT_.out (by kernel_rfl)) (fun _ _ _ h => h) (Or.inl ⟨by rfl, ?_⟩) ?_ ?_
       rotate_left
       ·intro w'
        go_simp
        with_reducible rfl
       rotate_left
       ·simp only [Act.put, sA, sZ, sS, i64_w, i32_w]
        rfl
       refine pure_ (i := 9) (N := some 88) (v := ?_) (a' := ?_) (bs 24 767) rfl rfl (any_of HT_.out (by kernel_rfl)) (fun _ _ _ h => h) (Or.inl ⟨by rfl, ?_⟩) ?_ ?_
       rotate_left
       ·intro w'
        go_simp
        with_reducible rfl
       rotate_left
       ·simp only [Act.put, sA, sZ, sS, i64_w, i32_w]
        rfl
       refine pure_ (i := 13) (N := some 92) (v := ?_) (a' := ?_) (bs 24 8959) rfl rfl (any_of HT_.out (by kernel_rfl)) (fun _ _ _ h => h) (Or.inl ⟨by rfl, ?_⟩) ?_ ?_
       rotate_left
       ·intro w'
        go_simp
        with_reducible rfl
       rotate_left
       ·simp only [Act.put, sA, sZ, sS, i64_w, i32_w]
        rfl
       refine pure_ (i := 14) (N := some 93) (v := ?_) (a' := ?_) (bs 24 25343) rfl rfl (any_of HT_.out (by kernel_rfl)) (fun _ _ _ h => h) (Or.inl ⟨by rfl, ?_⟩) ?_ ?_
       rotate_left
       ·intro w'
        go_simp
        with_reducible rfl
       rotate_left
       ·simp only [Act.put, sA, sZ, sS, i64_w, i32_w]
        rfl
       refine pure_ (i := 15) (N := some 94) (v := ?_) (a' := ?_) (bs 24 58111) rfl rfl (any_of HT_.out (by kernel_rfl)) (fun _ _ _ h => h) (Or.inl ⟨by rfl, ?_⟩) ?_ ?_
       rotate_left
       ·intro w'
        go_simp
        with_reducible rfl
       rotate_left
       ·simp only [Act.put, sA, sZ, sS, i64_w, i32_w]
        rfl
       refine pure_ (i := 17) (N := some 96) (v := ?_) (a' := ?_) (bs 24 189183) rfl rfl (any_of HT_.out (by kernel_rfl)) (fun _ _ _ h => h) (Or.inl ⟨by rfl, ?_⟩) ?_ ?_
       rotate_left
       ·intro w'
        go_simp
        with_reducible rfl
       rotate_left
       ·simp only [Act.put, sA, sZ, sS, i64_w, i32_w]
        rfl
       refine pure_ (i := 18) (N := some 97) (v := ?_) (a' := ?_) (bs 24 451327) rfl rfl (any_of HT_.out (by kernel_rfl)) (fun _ _ _ h => h) (Or.inl ⟨by rfl, ?_⟩) ?_ ?_
       rotate_left
       ·intro w'
        go_simp
        with_reducible rfl
       rotate_left
       ·simp only [Act.put, sA, sZ, sS, i64_w, i32_w]
        rfl
       refine take_ (i := 8) (N := some 87) (v := ?_) (a' := ?_) (bs 24 451583) rfl rfl (take_ofW HT_.out HW_.out (by kernel_rfl)) (fun _ _ _ h => h) (Or.inl ⟨by rfl, ?_⟩) hHeld ?_ ?_
       rotate_left
       ·rintro w' ⟨s0, s1, s2, s3⟩
        go_simp
        with_reducible rfl
       rotate_left
       ·simp only [Act.put, sA, sZ, sS, i64_w, i32_w]
        rfl
       refine pure_ (i := 10) (N := some 89) (v := ?_) (a' := ?_) (bs 24 452607) rfl rfl (any_of HT_.out (by kernel_rfl)) (fun _ _ _ h => h) (Or.inl ⟨by rfl, ?_⟩) ?_ ?_
       rotate_left
       ·intro w'
        go_simp
        with_reducible rfl
       rotate_left
       ·simp only [Act.put, sA, sZ, sS, i64_w, i32_w]
        rfl
       refine take_ (i := 11) (N := some 90) (v := ?_) (a' := ?_) (bs 24 454655) rfl rfl (take_ofW HT_.out HW_.out (by kernel_rfl)) (fun _ _ _ h => h) (Or.inl ⟨by rfl, ?_⟩) hHeld ?_ ?_
       rotate_left
       ·rintro w' ⟨s0, s1, s2, s3⟩
        go_simp
        with_reducible rfl
       rotate_left
       ·simp only [Act.put, sA, sZ, sS, i64_w, i32_w]
        rfl
       refine take_ (i := 16) (N := some 95) (v := ?_) (a' := ?_) (bs 24 520191) rfl rfl (take_ofW HT_.out HW_.out (by kernel_rfl)) (fun _ _ _ h => h) (Or.inl ⟨by rfl, ?_⟩) hHeld ?_ ?_
       rotate_left
       ·rintro w' ⟨s0, s1, s2, s3⟩
        go_simp
        with_reducible rfl
       rotate_left
       ·simp only [Act.put, sA, sZ, sS, i64_w, i32_w]
        rfl
       refine pure_ (i := 19) (N := some 98) (v := ?_) (a' := ?_) (bs 24 1044479) rfl rfl (any_of HT_.out (by kernel_rfl)) (fun _ _ _ h => h) (Or.inl ⟨by rfl, ?_⟩) ?_ ?_
       rotate_left
       ·intro w'
        go_simp
        with_reducible rfl
       rotate_left
       ·simp only [Act.put, sA, sZ, sS, i64_w, i32_w]
        rfl
       refine take_ (i := 20) (N := some 99) (v := ?_) (a' := ?_) (bs 24 2093055) rfl rfl (take_ofW HT_.out HW_.out (by kernel_rfl)) (fun _ _ _ h => h) (Or.inl ⟨by rfl, ?_⟩) hHeld ?_ ?_
       rotate_left
       ·rintro w' ⟨s0, s1, s2, s3⟩
        go_simp
        with_reducible rfl
       rotate_left
       ·simp only [Act.put, sA, sZ, sS, i64_w, i32_w]
        rfl
       refine one_ (i := 12) (N := some 91) (bs 24 2097151) rfl rfl (one_of HT_.out (by kernel_rfl)) (by decide) (fun K hK => ?_)
       refine goes_ Try.func30 (by kernel_rfl) rfl #[.int .i64 4] (by rfl) rfl rfl (by (try simp only [List.map_toArray, List.map_cons, List.map_nil]); first | done | rfl | (simp only [List.length_drop, List.length_take]; rfl)) ?_
       with_reducible refine (compare_Cost.calls kj9 4 t132 _ A54.out).mono ?_
       rintro e w' ⟨rfl, ⟨nd, rfl⟩⟩
       refine ⟨_, rfl, ?_⟩
       refine hK.out _ _ ⟨hHeld.1, hHeld.2.1, hHeld.2.2.1, hHeld.2.2.2⟩ (fun hHeld => ?_)
       clear hK K
       refine norm_ (a' := ?_) ?_ ?_
       rotate_left
       ·show Act.put _ (some 91) _ = _
        simp only [Act.put, sA, sZ, sS, i64_w, i32_w]
        rfl
       refine pure_ (i := 21) (N := some 100) (v := ?_) (a' := ?_) (bs 24 4194303) rfl rfl (any_of HT_.out (by kernel_rfl)) (fun _ _ _ h => h) (Or.inl ⟨by rfl, ?_⟩) ?_ ?_
       rotate_left
       ·intro w'
        go_simp
        with_reducible rfl
       rotate_left
       ·simp only [Act.put, sA, sZ, sS, i64_w, i32_w]
        rfl
       refine pure_ (i := 22) (N := some 101) (v := ?_) (a' := ?_) (bs 24 8388607) rfl rfl (any_of HT_.out (by kernel_rfl)) (fun _ _ _ h => h) (Or.inl ⟨by rfl, ?_⟩) ?_ ?_
       rotate_left
       ·intro w'
        go_simp
        with_reducible rfl
       rotate_left
       ·simp only [Act.put, sA, sZ, sS, i64_w, i32_w]
        rfl
       refine pure_ (i := 23) (N := some 102) (v := ?_) (a' := ?_) (bs 24 16777215) rfl rfl (any_of HT_.out (by kernel_rfl)) (fun _ _ _ h => h) (Or.inl ⟨by rfl, ?_⟩) ?_ ?_
       rotate_left
       ·intro w'
        go_simp
        with_reducible rfl
       rotate_left
       ·simp only [Act.put, sA, sZ, sS, i64_w, i32_w]
        rfl
       refine done_ (done_of HT_.out (by kernel_rfl)) ?_
       try go_wp2
       go_meet
       case rel => exact ⟨_, (((rd (rd_L6 t111 x8_9) x9_9) == (wrap64 (t132 + (rd (rd_L6 t111 x8_9) (ji55)))))), (by first | rfl | (simp; done) | (simp only [← hji55] <;> (first | rfl | simp)) | (simp [*]; done)), H', ⟨by have := HJ2.out; have := HK2.out; have := HJ7.out; have := HJ9.out; first | omega | exact Nat.le_refl _⟩, ⟨by exact nel <| HO_6.out⟩, ⟨by exact rel <| HO_7.out⟩, ⟨by first | exact bel HB.out | exact HB.out⟩⟩
      clear HC48
      try clear c1
      try clear p1
      try clear q1
      try clear hx1
      try clear c2
      try clear p2
      try clear c3
      try clear c4
      try clear c5
      try clear p6
      try clear c11
      try clear p11
      try clear q11
      try clear hx11
      try clear c12
      try clear p12
      try clear q12
      try clear hx12
      try clear c13
      try clear p13
      try clear q13
      try clear hx13
      try clear c14
      try clear c15
      try clear c17
      try clear c18
      try clear c21
      try clear c22
      try clear c24
      try clear c25
      try clear c26
      try clear c26b0
      try clear c26b1
      try clear c30
      try clear c35
      try clear c36
      try clear c49
      try clear c49b0
      try clear c50
      try clear c50b0
      try clear c51
      try clear c51b0
      try clear c52
      try clear c52b0
      try clear c53
      try clear c53b0
      try clear c56
      try clear c56b0
      try clear c57
      try clear c57b0
      try clear hcz42_0
      try clear hcz42_1
      try clear hcz42_2
      try clear hcz42_3
      try clear hcz42_4
      try clear hcz42_5
      try clear hfz42_0
      try clear hfz42_1
      try clear hfz42_2
      try clear hfz42_3
      try clear hfz42_4
      try clear hfz42_5
      try clear hx114_0
      try clear hx114_1
      try clear hx114_2
      try clear hx114_3
      try clear hx114_4
      try clear hx115_0
      try clear hx115_1
      try clear hx115_2
      try clear hx115_3
      try clear hx115_4
      try clear hx117_0
      try clear hx118_0
      try clear hx120_0
      try clear hx121_0
      try clear hx126_0
      try clear hx126_1
      try clear hx126_2
      try clear hx126_3
      try clear hx126_4
      try clear hx130_0
      try clear hx131_0
      try clear hx133_0
      try clear hx134_0
      try clear p1
      try clear p11
      try clear p114
      try clear p115
      try clear p117
      try clear p118
      try clear p12
      try clear p120
      try clear p121
      try clear p126
      try clear p130
      try clear p131
      try clear p133
      try clear p134
      try clear p2
      try clear p6
      try clear q1
      try clear q11
      try clear q114
      try clear q115
      try clear q117
      try clear q118
      try clear q12
      try clear q120
      try clear q121
      try clear q126
      try clear q130
      try clear q131
      try clear q133
      try clear q134
      obtain ⟨kq, x102_47, rfl, HA, HJ47, HO_6, HO_7, HB⟩ := hcut
      cases kq with
      | zero => exact absurd HA.out (by simp [compare_Script.j4])
      | succ kj47 =>
       have H := HA.out
       clear HA
       simp only [compare_Script.j4] at H
       by_cases c61 : x102_47 = true
       rotate_left
       ·replace c61 := Bool.eq_false_iff.mpr c61
        subst c61
        have H1 : (if x8_9 < (l0.length : Int) then (if x7_9.length < 3518437208883 then (compare_Script.l0 kj47 l0 l1 t111 (x7_9 ++ [(⟨5, (⟨(⟨#[]⟩ : ByteArray), 0, false, false, false⟩ : S50)⟩ : S63)]) (wrap64 (x8_9 + 1)) x9_9) else (none)) else (some (x7_9, 0))) = some (r1, r2) := by rw [if_neg (show ¬ (false = true) by decide)] at H; exact H
        clear H
        have H := H1
        clear H1
        by_cases c66 : x8_9 < (l0.length : Int)
        rotate_left
        ·rw [if_neg c66] at H
         have c66b0 : decide (x8_9 < (l0.length : Int)) = false := decide_eq_false c66
         clear c66
         simp only [Option.some.injEq, Prod.mk.injEq] at H
         obtain ⟨rfl, rfl⟩ := H
         go_wp2
         simp only [Exit.jump]
         go_ret2
         exact ⟨_, by first | rfl | (simp [errW_none, errW_some] <;> rfl) | (simp [*, errW_none, errW_some] <;> rfl), by exact rel <| HO_7.out, by first | exact bel HB.out | exact HB.out⟩

        rw [if_pos c66] at H
        have c66b0 : decide (x8_9 < (l0.length : Int)) = true := decide_eq_true c66
        clear c66
        by_cases c67 : x7_9.length < 3518437208883
        rotate_left
        ·rw [if_neg c67] at H
         exact absurd H (by simp)
        rw [if_pos c67] at H
        have LMc67 := aS c67
        clear c67
        obtain ⟨y139, hy139⟩ : ∃ y_ : List (S63), y_ = (x7_9 ++ [(⟨5, (⟨(⟨#[]⟩ : ByteArray), 0, false, false, false⟩ : S50)⟩ : S63)]) := ⟨_, rfl⟩
        replace H : (compare_Script.l0 kj47 l0 l1 t111 y139 (wrap64 (x8_9 + 1)) x9_9) = some (r1, r2) := by first | (rw [hy139]; with_reducible exact H) | (have H2_ := (Option.bind_some _ _).symm.trans H; rw [hy139]; with_reducible exact H2_) | (have H2_ := (Option.bind_some _ _).symm.trans H; with_reducible exact H2_) | with_reducible exact H | (rw [hy139]; exact H) | exact H
        have Ny139 := aS hy139
        clear hy139
        have H' := aS H
        clear H
        go_wp2_with (first | ((with_reducible refine gate_builtin (b := .append) (xs := #[.tmp 117, .tmp 119]) rfl ?_); (try (refine gate_guard (by rfl) ?_; dsimp only)); at_builtin; refine Kd.R_append k63 (w0 := w) w.heap.size rfl (.tmp 117) (.tmp 119) 28 63 (.agg #[(.int .i64 0), (.string ⟨#[]⟩), (.int .i64 0), (.bool false), (.bool false), (.bool false)]) 40 rfl Try.underlying28 info63 rfl (by decide) (by omega) u7 x7_9 (⟨5, (⟨(⟨#[]⟩ : ByteArray), 0, false, false, false⟩ : S50)⟩ : S63) [.int .i64 5, .string (⟨#[]⟩ : ByteArray), .int .i64 0, .bool false, .bool false, .bool false] (fun _ => True) (fun _ => False) rfl rfl ?aP (fun _ hk => hk.elim) ?aF ?aO ?aB ?aS ?aL ?_; (case aP => exact k63_mkM _ _ _ (⟨5, (⟨(⟨#[]⟩ : ByteArray), 0, false, false, false⟩ : S50)⟩ : S63)); (case aB => exact (by first | exact bel HB.out | exact HB.out)); (case aF => exact (fun _ _ => trivial)); (case aO => exact (by exact rel <| HO_7.out)); (case aS => exact (below_size (by first | exact bel HB.out | exact HB.out))); (case aL => have := LMc67.out; omega); intro v140 w68 ho hb hg hat; rw [← Ny139.out] at ho; have n0_ := aS (Kd.N_afterv (ok := (fun _ => True)) (by exact nel <| Kd.N_mono HO_6.out (fun _ hk => ⟨trivial, hk⟩)) hg hat); have n1_ := aS (hb); have n2_ := aS (ho); clear HO_6; clear HB; clear HO_7; have HO_6 := n0_; have HB := n1_; have HO141 := n2_; clear n0_ n1_ n2_; clear ho hb hg hat))
        go_step3
        refine ⟨rfl, ?_⟩
        go_step
        go_roundg kj47
        case measure => have := HJ2.out; have := HK2.out; have := HJ7.out; have := HJ9.out; have := HJ47.out; omega
        case rel => exact ⟨(y139), (wrap64 (x8_9 + 1)), (x9_9), (by first | rfl | (simp; done) | (simp [*]; done)), (by first | rfl | (simp; done) | (simp [*]; done)), H', ⟨by have := HJ2.out; have := HK2.out; have := HJ7.out; have := HJ9.out; have := HJ47.out; omega⟩, ⟨by exact nel <| Kd.N_mono HO_6.out (fun _ hk => hk.2)⟩, ⟨by exact rel <| HO141.out⟩, ⟨by first | exact bel HB.out | exact HB.out⟩⟩
       subst c61
       have H1 : (if 0 ≤ x9_9 then (if x9_9 < (l1.length : Int) then (if x7_9.length < 3518437208883 then (compare_Script.l0 kj47 l0 l1 t111 (x7_9 ++ [(⟨4, (⟨(rd_T50 l1 x9_9).f0, (rd_T50 l1 x9_9).f1, (rd_T50 l1 x9_9).f2, (rd_T50 l1 x9_9).f3, (rd_T50 l1 x9_9).f4⟩ : S50)⟩ : S63)]) x8_9 (wrap64 (x9_9 + 1))) else (none)) else (none)) else (none)) = some (r1, r2) := by rw [if_pos rfl] at H; exact H
       clear H
       have H := H1
       clear H1
       by_cases c62 : 0 ≤ x9_9
       rotate_left
       ·rw [if_neg c62] at H
        exact absurd H (by simp)
       rw [if_pos c62] at H
       have c62b0 : decide (0 ≤ x9_9) = true := decide_eq_true c62
       clear c62
       by_cases c63 : x9_9 < (l1.length : Int)
       rotate_left
       ·rw [if_neg c63] at H
        exact absurd H (by simp)
       rw [if_pos c63] at H
       have c63b0 : decide (x9_9 < (l1.length : Int)) = true := decide_eq_true c63
       clear c63
       by_cases c64 : x7_9.length < 3518437208883
       rotate_left
       ·rw [if_neg c64] at H
        exact absurd H (by simp)
       rw [if_pos c64] at H
       have LMc64 := aS c64
       clear c64
       obtain ⟨y136, hy136⟩ : ∃ y_ : List (S63), y_ = (x7_9 ++ [(⟨4, (⟨(rd_T50 l1 x9_9).f0, (rd_T50 l1 x9_9).f1, (rd_T50 l1 x9_9).f2, (rd_T50 l1 x9_9).f3, (rd_T50 l1 x9_9).f4⟩ : S50)⟩ : S63)]) := ⟨_, rfl⟩
       replace H : (compare_Script.l0 kj47 l0 l1 t111 y136 x8_9 (wrap64 (x9_9 + 1))) = some (r1, r2) := by first | (rw [hy136]; with_reducible exact H) | (have H2_ := (Option.bind_some _ _).symm.trans H; rw [hy136]; with_reducible exact H2_) | (have H2_ := (Option.bind_some _ _).symm.trans H; with_reducible exact H2_) | with_reducible exact H | (rw [hy136]; exact H) | exact H
       have Ny136 := aS hy136
       clear hy136
       have H' := aS H
       clear H
       have p135 : 0 ≤ (x9_9 : Int) := of_decide_eq_true (by first | (with_reducible assumption) | assumption)
       have q135 : x9_9 < (l1.length : Int) := of_decide_eq_true (by first | (with_reducible assumption) | assumption)
       obtain ⟨ad135, e135, hx135_0, hx135_1, hx135_2, hx135_3, hx135_4⟩ := at_T50 HR1.out x9_9 p135 q135
       cases e135
       replace hx135_0 := hup HB.out hx135_0
       replace hx135_1 := hup HB.out hx135_1
       replace hx135_2 := hup HB.out hx135_2
       replace hx135_3 := hup HB.out hx135_3
       replace hx135_4 := hup HB.out hx135_4
       replace p135 := eq_true p135
       replace q135 := eq_true q135
       go_wp2_with (first | ((with_reducible refine gate_builtin (b := .append) (xs := #[.tmp 103, .tmp 109]) rfl ?_); (try (refine gate_guard (by rfl) ?_; dsimp only)); at_builtin; refine Kd.R_append k63 (w0 := w) w.heap.size rfl (.tmp 103) (.tmp 109) 28 63 (.agg #[(.int .i64 0), (.string ⟨#[]⟩), (.int .i64 0), (.bool false), (.bool false), (.bool false)]) 40 rfl Try.underlying28 info63 rfl (by decide) (by omega) u7 x7_9 (⟨4, (⟨(rd_T50 l1 x9_9).f0, (rd_T50 l1 x9_9).f1, (rd_T50 l1 x9_9).f2, (rd_T50 l1 x9_9).f3, (rd_T50 l1 x9_9).f4⟩ : S50)⟩ : S63) [.int .i64 4, .string ((rd_T50 l1 x9_9).f0), .int .i64 ((rd_T50 l1 x9_9).f1), .bool ((rd_T50 l1 x9_9).f2), .bool ((rd_T50 l1 x9_9).f3), .bool ((rd_T50 l1 x9_9).f4)] (fun _ => True) (fun _ => False) rfl rfl ?aP (fun _ hk => hk.elim) ?aF ?aO ?aB ?aS ?aL ?_; (case aP => exact k63_mkM _ _ _ (⟨4, (⟨(rd_T50 l1 x9_9).f0, (rd_T50 l1 x9_9).f1, (rd_T50 l1 x9_9).f2, (rd_T50 l1 x9_9).f3, (rd_T50 l1 x9_9).f4⟩ : S50)⟩ : S63)); (case aB => exact (by first | exact bel HB.out | exact HB.out)); (case aF => exact (fun _ _ => trivial)); (case aO => exact (by exact rel <| HO_7.out)); (case aS => exact (below_size (by first | exact bel HB.out | exact HB.out))); (case aL => have := LMc64.out; omega); intro v137 w65 ho hb hg hat; rw [← Ny136.out] at ho; have n0_ := aS (Kd.N_afterv (ok := (fun _ => True)) (by exact nel <| Kd.N_mono HO_6.out (fun _ hk => ⟨trivial, hk⟩)) hg hat); have n1_ := aS (hb); have n2_ := aS (ho); clear HO_6; clear HB; clear HO_7; have HO_6 := n0_; have HB := n1_; have HO138 := n2_; clear n0_ n1_ n2_; clear ho hb hg hat))
       go_step3
       refine ⟨rfl, ?_⟩
       go_step
       go_roundg kj47
       case measure => have := HJ2.out; have := HK2.out; have := HJ7.out; have := HJ9.out; have := HJ47.out; omega
       case rel => exact ⟨(y136), (x8_9), (wrap64 (x9_9 + 1)), (by first | rfl | (simp; done) | (simp [*]; done)), (by first | rfl | (simp; done) | (simp [*]; done)), H', ⟨by have := HJ2.out; have := HK2.out; have := HJ7.out; have := HJ9.out; have := HJ47.out; omega⟩, ⟨by exact nel <| Kd.N_mono HO_6.out (fun _ hk => hk.2)⟩, ⟨by exact rel <| HO138.out⟩, ⟨by first | exact bel HB.out | exact HB.out⟩⟩
end Go.Proofs.Ytjmbkbnbepmhjaa.P
