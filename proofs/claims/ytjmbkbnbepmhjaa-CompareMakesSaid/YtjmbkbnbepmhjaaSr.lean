/- The first script of least cost. -/
import Derived.Test.YtjmbkbnbepmhjaaDs
namespace Go.Proofs.Ytjmbkbnbepmhjaa.Pure
open Go.RowKit Go.Proofs.Ytjmbkbnbepmhjaa.P Go.Proofs.Ytjmbkbnbepmhjaa.E Go.Proofs.YtjmbkbnbepmhjaaW.PrintWords Go.Proofs.YtjmbkbnbepmhjaaW.PrintLast
set_option linter.unusedVariables false

def stepOf (x y : S50) : S63 := if opOf x y = 1 then ⟨1, zit⟩ else ⟨opOf x y, y⟩
def scrR : List S50 → List S50 → List S63
  | [], [] => []
  | [], y :: b => ⟨4, y⟩ :: scrR [] b
  | x :: a, [] => ⟨5, zit⟩ :: scrR a []
  | x :: a, y :: b =>
    if D (x :: a) (y :: b) = costOf (opOf x y) + D a b then stepOf x y :: scrR a b
    else if D (x :: a) (y :: b) = 2 + D (x :: a) b then ⟨4, y⟩ :: scrR (x :: a) b
    else ⟨5, zit⟩ :: scrR a (y :: b)
termination_by a b => a.length + b.length
theorem D_three (x y : S50) (a b : List S50) : D (x :: a) (y :: b) = costOf (opOf x y) + D a b ∨ D (x :: a) (y :: b) = 2 + D (x :: a) b ∨ D (x :: a) (y :: b) = 2 + D a (y :: b) := by
  rw [D_cons]
  rcases mn_or (mn (costOf (opOf x y) + D a b) (2 + D (x :: a) b)) (2 + D a (y :: b)) with e | e
  · rcases mn_or (costOf (opOf x y) + D a b) (2 + D (x :: a) b) with e' | e'
    · rw [e']; rw [e'] at e; exact .inl e
    · rw [e']; rw [e'] at e; exact .inr (.inl e)
  · exact .inr (.inr e)
theorem full_zit' : full zit = false := by decide +kernel
theorem bad4 (y : S50) : bad ⟨4, y⟩ = false := by unfold bad; simp [costI]
theorem bad5 : bad ⟨5, zit⟩ = false := by decide +kernel
theorem step_op (x y : S50) : (stepOf x y).f0 = opOf x y := by
  unfold stepOf; split
  · rename_i h; exact h.symm
  · rfl
theorem step_bad (x y : S50) : bad (stepOf x y) = false := by
  unfold stepOf
  split
  · decide +kernel
  · rename_i h
    unfold bad
    rcases opOf_is x y with e | e | e
    · exact absurd e h
    · simp [e, costI]
    · simp [e, costI]
/-- What the least script does. -/
theorem scr_all : ∀ (a b : List S50), fitR (scrR a b) a = 0 ∧ (∃ c, appR (scrR a b) a = c ∧ Sames c b) ∧ totR (scrR a b) = D a b ∧ (scrR a b).any bad = false ∧ (scrR a b).length ≤ a.length + b.length
  | [], [] => by rw [scrR]; exact ⟨rfl, ⟨[], rfl, sames_refl []⟩, rfl, rfl, by simp⟩
  | [], y :: b => by
    obtain ⟨k1, ⟨c, k2, k2'⟩, k3, k4, k5⟩ := scr_all [] b
    have e4 : (⟨4, y⟩ : S63).f0 = 4 := rfl
    rw [scrR, fitR_ins _ _ e4, appR_ins _ _ e4, totR, k3, List.any_cons, bad4, k4]
    refine ⟨k1, ⟨y :: c, by rw [k2], (sames_cons _ _ _ _).mpr ⟨same_refl y, k2'⟩⟩, ?_, rfl, by simp at k5 ⊢; omega⟩
    rw [D_nil, D_nil, e4]; simp [costI]; omega
  | x :: a, [] => by
    obtain ⟨k1, ⟨c, k2, k2'⟩, k3, k4, k5⟩ := scr_all a []
    have e5 : (⟨5, zit⟩ : S63).f0 = 5 := rfl
    rw [scrR, fitR_one _ _ _ (by rw [e5]; decide) (by rw [e5]; decide), appR_del _ _ _ (by rw [e5]; decide), totR, k3, List.any_cons, bad5, k4]
    refine ⟨k1, ⟨c, k2, k2'⟩, ?_, rfl, by simp at k5 ⊢; omega⟩
    rw [D_end, D_end, e5]; simp [costI]; omega
  | x :: a, y :: b => by
    rw [scrR]
    by_cases c1 : D (x :: a) (y :: b) = costOf (opOf x y) + D a b
    · rw [if_pos c1]
      obtain ⟨k1, ⟨c, k2, k2'⟩, k3, k4, k5⟩ := scr_all a b
      rw [totR, k3, List.any_cons, step_bad, k4, c1, step_op]
      refine ⟨?_, ?_, ?_, rfl, by simp at k5 ⊢; omega⟩
      · rcases opOf_is x y with e | e | e
        · rw [fitR_one _ _ _ (by rw [step_op, e]; decide) (by rw [step_op, e]; decide)]; exact k1
        · have e1 : stepOf x y = ⟨2, y⟩ := by unfold stepOf; rw [e]; rfl
          rw [e1, fitR_two _ _ _ (.inl rfl), if_pos e]; exact k1
        · have e1 : stepOf x y = ⟨3, y⟩ := by unfold stepOf; rw [e]; rfl
          rw [e1, fitR_two _ _ _ (.inr rfl), if_pos e]; exact k1
      · rcases opOf_is x y with e | e | e
        · have hs : same x y = true := by
            rw [op_def] at e
            by_cases h : same x y = true
            · exact h
            · rw [if_neg h] at e; split at e <;> omega
          rw [appR_keep _ _ _ (by rw [step_op, e])]
          exact ⟨x :: c, by rw [k2], (sames_cons _ _ _ _).mpr ⟨hs, k2'⟩⟩
        · have e1 : stepOf x y = ⟨2, y⟩ := by unfold stepOf; rw [e]; rfl
          rw [e1, appR_two _ _ _ (.inl rfl)]
          exact ⟨y :: c, by rw [k2], (sames_cons _ _ _ _).mpr ⟨same_refl y, k2'⟩⟩
        · have e1 : stepOf x y = ⟨3, y⟩ := by unfold stepOf; rw [e]; rfl
          rw [e1, appR_two _ _ _ (.inr rfl)]
          exact ⟨y :: c, by rw [k2], (sames_cons _ _ _ _).mpr ⟨same_refl y, k2'⟩⟩
      · congr 1
        rcases opOf_is x y with e | e | e <;> rw [e] <;> rfl
    · rw [if_neg c1]
      by_cases c2 : D (x :: a) (y :: b) = 2 + D (x :: a) b
      · rw [if_pos c2]
        obtain ⟨k1, ⟨c, k2, k2'⟩, k3, k4, k5⟩ := scr_all (x :: a) b
        have e4 : (⟨4, y⟩ : S63).f0 = 4 := rfl
        rw [fitR_ins _ _ e4, appR_ins _ _ e4, totR, k3, List.any_cons, bad4, k4, c2]
        exact ⟨k1, ⟨y :: c, by rw [k2], (sames_cons _ _ _ _).mpr ⟨same_refl y, k2'⟩⟩, rfl, rfl, by simp at k5 ⊢; omega⟩
      · rw [if_neg c2]
        obtain ⟨k1, ⟨c, k2, k2'⟩, k3, k4, k5⟩ := scr_all a (y :: b)
        have e5 : (⟨5, zit⟩ : S63).f0 = 5 := rfl
        rw [fitR_one _ _ _ (by rw [e5]; decide) (by rw [e5]; decide), appR_del _ _ _ (by rw [e5]; decide), totR, k3, List.any_cons, bad5, k4]
        refine ⟨k1, ⟨c, k2, k2'⟩, ?_, rfl, by simp at k5 ⊢; omega⟩
        rcases D_three x y a b with e | e | e
        · exact absurd e c1
        · exact absurd e c2
        · rw [e]; rfl
termination_by a b => a.length + b.length
end Go.Proofs.Ytjmbkbnbepmhjaa.Pure
