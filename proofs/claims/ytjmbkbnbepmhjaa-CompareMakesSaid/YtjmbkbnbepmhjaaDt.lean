/- The least cost of a script: the theory of D. -/
import Derived.Test.YtjmbkbnbepmhjaaPx6
namespace Go.Proofs.Ytjmbkbnbepmhjaa.Pure
open Go.RowKit Go.Proofs.Ytjmbkbnbepmhjaa.P Go.Proofs.YtjmbkbnbepmhjaaW.PrintWords Go.Proofs.YtjmbkbnbepmhjaaW.PrintLast
set_option linter.unusedVariables false

/-- Two items are the same. -/
def same (x y : S50) : Bool := x.f0.toList == y.f0.toList && (x.f1 == y.f1 && (x.f2 == y.f2 && (x.f3 == y.f3 && (x.f4 == y.f4))))
theorem same_iff (x y : S50) : same x y = true ↔ x.f0.toList = y.f0.toList ∧ x.f1 = y.f1 ∧ x.f2 = y.f2 ∧ x.f3 = y.f3 ∧ x.f4 = y.f4 := by
  unfold same; simp only [Bool.and_eq_true, beq_iff_eq]
theorem same_refl (x : S50) : same x x = true := (same_iff x x).mpr ⟨rfl, rfl, rfl, rfl, rfl⟩
theorem same_symm {x y : S50} (h : same x y = true) : same y x = true := by
  obtain ⟨a, b, c, d, e⟩ := (same_iff x y).mp h
  exact (same_iff y x).mpr ⟨a.symm, b.symm, c.symm, d.symm, e.symm⟩
theorem same_trans {x y z : S50} (h : same x y = true) (h' : same y z = true) : same x z = true := by
  obtain ⟨a, b, c, d, e⟩ := (same_iff x y).mp h
  obtain ⟨a', b', c', d', e'⟩ := (same_iff y z).mp h'
  exact (same_iff x z).mpr ⟨a.trans a', b.trans b', c.trans c', d.trans d', e.trans e'⟩
theorem op_def (x y : S50) : opOf x y = if same x y = true then 1 else if x.f0.toList = y.f0.toList then 2 else 3 := rfl
theorem cost_def (x y : S50) : costOf (opOf x y) = if same x y = true then 0 else if x.f0.toList = y.f0.toList then 1 else 3 := by
  rw [op_def]; split
  · rfl
  · split <;> rfl
theorem cost_bd (x y : S50) : 0 ≤ costOf (opOf x y) ∧ costOf (opOf x y) ≤ 3 := by
  rw [cost_def]; split
  · omega
  · split <;> omega
theorem cost_symm (x y : S50) : costOf (opOf x y) = costOf (opOf y x) := by
  rw [cost_def, cost_def]
  by_cases h : same x y = true
  · rw [if_pos h, if_pos (same_symm h)]
  · rw [if_neg h, if_neg (fun e => h (same_symm e))]
    by_cases h2 : x.f0.toList = y.f0.toList
    · rw [if_pos h2, if_pos h2.symm]
    · rw [if_neg h2, if_neg (fun e => h2 e.symm)]
theorem cost_tri (x y z : S50) : costOf (opOf x z) ≤ costOf (opOf x y) + costOf (opOf y z) := by
  rw [cost_def x z, cost_def x y, cost_def y z]
  by_cases a : same x y = true
  · by_cases b : same y z = true
    · rw [if_pos a, if_pos b, if_pos (same_trans a b)]; omega
    · have e := ((same_iff x y).mp a).1
      rw [if_pos a, if_neg b, e]
      split
      · split <;> omega
      · split <;> omega
  · by_cases b : same y z = true
    · have e := ((same_iff y z).mp b).1
      rw [if_neg a, if_pos b, ← e]
      split
      · split <;> omega
      · split <;> omega
    · rw [if_neg a, if_neg b]
      by_cases c : x.f0.toList = y.f0.toList
      · by_cases d : y.f0.toList = z.f0.toList
        · rw [if_pos c, if_pos d, if_pos (c.trans d)]; split <;> omega
        · rw [if_pos c, if_neg d]; split
          · omega
          · split <;> omega
      · rw [if_neg c]
        split
        · split <;> omega
        · split <;> split <;> omega
theorem cost_zero (x y : S50) : costOf (opOf x y) = 0 ↔ same x y = true := by
  rw [cost_def]
  by_cases h : same x y = true
  · rw [if_pos h]; simp [h]
  · rw [if_neg h]; split <;> simp [h]
/-- A script of cost n makes b of a. -/
inductive Scr : List S50 → List S50 → Int → Prop
  | nil : Scr [] [] 0
  | sub {a b n} (x y : S50) : Scr a b n → Scr (x :: a) (y :: b) (costOf (opOf x y) + n)
  | ins {a b n} (y : S50) : Scr a b n → Scr a (y :: b) (2 + n)
  | del {a b n} (x : S50) : Scr a b n → Scr (x :: a) b (2 + n)
theorem mn_le (a b : Int) : mn a b ≤ a ∧ mn a b ≤ b := by unfold mn; split <;> omega
theorem mn_or (a b : Int) : mn a b = a ∨ mn a b = b := by unfold mn; split <;> simp
theorem D_sub (x y : S50) (a b : List S50) : D (x :: a) (y :: b) ≤ costOf (opOf x y) + D a b := by
  rw [D_cons]
  have h1 := mn_le (mn (costOf (opOf x y) + D a b) (2 + D (x :: a) b)) (2 + D a (y :: b))
  have h2 := mn_le (costOf (opOf x y) + D a b) (2 + D (x :: a) b)
  omega
theorem D_ins (y : S50) (a b : List S50) : D a (y :: b) ≤ 2 + D a b := by
  cases a with
  | nil => rw [D_nil, D_nil]; simp; omega
  | cons x a =>
    rw [D_cons]
    have h1 := mn_le (mn (costOf (opOf x y) + D a b) (2 + D (x :: a) b)) (2 + D a (y :: b))
    have h2 := mn_le (costOf (opOf x y) + D a b) (2 + D (x :: a) b)
    omega
theorem D_del (x : S50) (a b : List S50) : D (x :: a) b ≤ 2 + D a b := by
  cases b with
  | nil => rw [D_end, D_end]; simp; omega
  | cons y b =>
    rw [D_cons]
    exact (mn_le _ _).2
theorem scr_le {a b : List S50} {n : Int} (h : Scr a b n) : D a b ≤ n := by
  induction h with
  | nil => exact Int.le_refl 0
  | sub x y _ ih => have := D_sub x y; rename_i a b n _; have := this a b; omega
  | ins y _ ih => rename_i a b n _; have := D_ins y a b; omega
  | del x _ ih => rename_i a b n _; have := D_del x a b; omega
theorem scr_ins : ∀ b : List S50, Scr [] b (2 * (b.length : Int))
  | [] => Scr.nil
  | y :: b => by
    have h := Scr.ins y (scr_ins b)
    have e : (2 + 2 * (b.length : Int)) = 2 * (((y :: b).length : Nat) : Int) := by simp; omega
    rw [e] at h; exact h
theorem scr_del : ∀ a : List S50, Scr a [] (2 * (a.length : Int))
  | [] => Scr.nil
  | x :: a => by
    have h := Scr.del x (scr_del a)
    have e : (2 + 2 * (a.length : Int)) = 2 * (((x :: a).length : Nat) : Int) := by simp; omega
    rw [e] at h; exact h
theorem scr_D : ∀ a b : List S50, Scr a b (D a b)
  | [], b => scr_ins b
  | x :: a, b => by
    have ha := scr_D a
    induction b with
    | nil => rw [D_end]; exact scr_del (x :: a)
    | cons y b ih =>
      rw [D_cons]
      rcases mn_or (mn (costOf (opOf x y) + D a b) (2 + D (x :: a) b)) (2 + D a (y :: b)) with e | e
      · rw [e]
        rcases mn_or (costOf (opOf x y) + D a b) (2 + D (x :: a) b) with e | e
        · rw [e]; exact Scr.sub x y (ha b)
        · rw [e]; exact Scr.ins y ih
      · rw [e]; exact Scr.del x (ha (y :: b))
theorem scr_symm {a b : List S50} {n : Int} (h : Scr a b n) : Scr b a n := by
  induction h with
  | nil => exact Scr.nil
  | sub x y _ ih => rw [cost_symm]; exact Scr.sub y x ih
  | ins y _ ih => exact Scr.del y ih
  | del x _ ih => exact Scr.ins x ih
theorem scr_comp {a b c : List S50} {n m : Int} (h : Scr a b n) (h' : Scr b c m) : ∃ k, k ≤ n + m ∧ Scr a c k := by
  induction h generalizing c m with
  | nil => exact ⟨m, by omega, h'⟩
  | del x _ ih =>
    obtain ⟨k, hk, hs⟩ := ih h'
    exact ⟨2 + k, by omega, Scr.del x hs⟩
  | @sub a b n x y h0 ih =>
    generalize hyb : y :: b = yb at h'
    induction h' with
    | nil => cases hyb
    | @sub b' c m y' z h1 _ =>
      cases hyb
      obtain ⟨k, hk, hs⟩ := ih h1
      have := cost_tri x y z
      exact ⟨_, by omega, Scr.sub x z hs⟩
    | ins z h1 ih2 =>
      obtain ⟨k, hk, hs⟩ := ih2 hyb
      exact ⟨2 + k, by omega, Scr.ins z hs⟩
    | @del b' c m y' h1 _ =>
      cases hyb
      obtain ⟨k, hk, hs⟩ := ih h1
      have := (cost_bd x y).1
      exact ⟨2 + k, by omega, Scr.del x hs⟩
  | @ins a b n y h0 ih =>
    generalize hyb : y :: b = yb at h'
    induction h' with
    | nil => cases hyb
    | @sub b' c m y' z h1 _ =>
      cases hyb
      obtain ⟨k, hk, hs⟩ := ih h1
      have := (cost_bd y z).1
      exact ⟨2 + k, by omega, Scr.ins z hs⟩
    | ins z h1 ih2 =>
      obtain ⟨k, hk, hs⟩ := ih2 hyb
      exact ⟨2 + k, by omega, Scr.ins z hs⟩
    | @del b' c m y' h1 _ =>
      cases hyb
      obtain ⟨k, hk, hs⟩ := ih h1
      exact ⟨k, by omega, hs⟩
theorem D_symm (a b : List S50) : D a b = D b a := by
  have h1 := scr_le (scr_symm (scr_D a b))
  have h2 := scr_le (scr_symm (scr_D b a))
  omega
theorem D_tri (a b c : List S50) : D a c ≤ D a b + D b c := by
  obtain ⟨k, hk, hs⟩ := scr_comp (scr_D a b) (scr_D b c)
  have := scr_le hs
  omega
/-- Two lines are the same. -/
def Sames (a b : List S50) : Prop := a.length = b.length ∧ ∀ i : Nat, i < a.length → same (rd_T50 a i) (rd_T50 b i) = true
theorem scr_pos {a b : List S50} {n : Int} (h : Scr a b n) : 0 ≤ n := by
  have := scr_le h; have := (D_bd a b).1; omega
theorem rd_T50_zero (x : S50) (a : List S50) : rd_T50 (x :: a) (0 : Nat) = x := rfl
theorem rd_T50_succ (x : S50) (a : List S50) (i : Nat) : rd_T50 (x :: a) ((i + 1 : Nat) : Int) = rd_T50 a i := by
  unfold rd_T50; rw [Int.toNat_natCast, Int.toNat_natCast]; rfl
theorem sames_cons (x y : S50) (a b : List S50) : Sames (x :: a) (y :: b) ↔ same x y = true ∧ Sames a b := by
  constructor
  · rintro ⟨h1, h2⟩
    refine ⟨?_, by simpa using h1, fun i hi => ?_⟩
    · have := h2 0 (by simp); rwa [rd_T50_zero, rd_T50_zero] at this
    · have := h2 (i + 1) (by simpa using hi); rwa [rd_T50_succ, rd_T50_succ] at this
  · rintro ⟨h, h1, h2⟩
    refine ⟨by simp [h1], fun i hi => ?_⟩
    cases i with
    | zero => rw [rd_T50_zero, rd_T50_zero]; exact h
    | succ i => rw [rd_T50_succ, rd_T50_succ]; exact h2 i (by simpa using hi)
theorem scr_zero {a b : List S50} {n : Int} (h : Scr a b n) (hn : n ≤ 0) : Sames a b := by
  induction h with
  | nil => exact ⟨rfl, fun i hi => absurd hi (by simp)⟩
  | sub x y h0 ih =>
    have h1 := scr_pos h0; have h2 := cost_bd x y
    exact (sames_cons _ _ _ _).mpr ⟨(cost_zero x y).mp (by omega), ih (by omega)⟩
  | ins y h0 _ => have h1 := scr_pos h0; omega
  | del x h0 _ => have h1 := scr_pos h0; omega
theorem sames_scr : ∀ a b : List S50, Sames a b → Scr a b 0
  | [], [], _ => Scr.nil
  | [], y :: b, h => by have := h.1; simp at this
  | x :: a, [], h => by have := h.1; simp at this
  | x :: a, y :: b, h => by
    obtain ⟨h1, h2⟩ := (sames_cons _ _ _ _).mp h
    have := Scr.sub x y (sames_scr a b h2)
    rw [(cost_zero x y).mpr h1] at this
    exact this
theorem D_zero (a b : List S50) : D a b = 0 ↔ Sames a b := by
  constructor
  · intro h; exact scr_zero (scr_D a b) (by omega)
  · intro h; have h1 := scr_le (sames_scr a b h); have h2 := (D_bd a b).1; omega
end Go.Proofs.Ytjmbkbnbepmhjaa.Pure
