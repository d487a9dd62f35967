/- The distance; scripts that fit cost no less. -/
import Derived.Test.YtjmbkbnbepmhjaaIv
namespace Go.Proofs.Ytjmbkbnbepmhjaa.Pure
open Go.RowKit Go.Proofs.Ytjmbkbnbepmhjaa.P Go.Proofs.Ytjmbkbnbepmhjaa.E Go.Proofs.YtjmbkbnbepmhjaaW.PrintWords Go.Proofs.YtjmbkbnbepmhjaaW.PrintLast
set_option linter.unusedVariables false

theorem dist_is (a b : List S50) (ha : a.length ≤ 30) (hb : b.length ≤ 30) : compare_Distance.f a b = some (D a b, 0) := by
  unfold compare_Distance.f compare_table.f
  rw [if_neg (by omega), if_neg (by omega), if_pos ha, if_pos hb, Option.bind_some]
  have h1 : (TBL a b).length = a.length + 1 := by simp [TBL]
  have h2 : rd_L6 (TBL a b) 0 = (List.range (b.length + 1)).map fun k => Dik a b 0 k := by
    unfold rd_L6 TBL
    simp [List.getD_eq_getElem?_getD]
  have h3 : rd ((List.range (b.length + 1)).map fun k => Dik a b 0 k) 0 = D a b := by
    unfold rd
    simp [List.getD_eq_getElem?_getD, Dik]
  rw [if_pos (by omega), h2, if_pos (by simp), h3]
theorem op_symm (x y : S50) : opOf x y = opOf y x := by
  rw [op_def, op_def]
  by_cases h : same x y = true
  · rw [if_pos h, if_pos (same_symm h)]
  · rw [if_neg h, if_neg (fun e => h (same_symm e))]
    by_cases h2 : x.f0.toList = y.f0.toList
    · rw [if_pos h2, if_pos h2.symm]
    · rw [if_neg h2, if_neg (fun e => h2 e.symm)]
theorem scr_fit : ∀ (s : List S63) (a : List S50), fitR s a = 0 → s.any bad = false → Scr a (appR s a) (totR s)
  | [], [], _, _ => Scr.nil
  | [], x :: a, h, _ => by simp [fitR] at h
  | s :: ss, a, h, hb => by
    rw [List.any_cons, Bool.or_eq_false_iff] at hb
    have hop := bad_op hb.1
    by_cases h4 : s.f0 = 4
    · rw [fitR_ins _ _ h4] at h
      rw [appR_ins _ _ h4]
      have := Scr.ins s.f1 (scr_fit ss a h hb.2)
      have e : costI s.f0 = 2 := by rw [h4]; rfl
      rw [totR, e]; exact this
    obtain ⟨x, a', rfl, hf, h23⟩ := fitR_cases h h4
    have ih := scr_fit ss a' hf hb.2
    by_cases h1 : s.f0 = 1
    · rw [appR_keep _ _ _ h1, totR]
      have e : costI s.f0 = 0 := by rw [h1]; rfl
      have := Scr.sub x x ih
      rw [(cost_zero x x).mpr (same_refl x)] at this
      rw [e]; exact this
    by_cases h5 : s.f0 = 5
    · rw [appR_del _ _ _ (by rw [h5]; decide), totR]
      have e : costI s.f0 = 2 := by rw [h5]; rfl
      rw [e]; exact Scr.del x ih
    have h2 : s.f0 = 2 ∨ s.f0 = 3 := by
      rcases hop with e | e | e | e | e
      · exact absurd e h1
      · exact .inl e
      · exact .inr e
      · exact absurd e h4
      · exact absurd e h5
    have ho := h23 h2
    rw [appR_two _ _ _ h2, totR]
    have := Scr.sub x s.f1 ih
    have e : costI s.f0 = costOf (opOf x s.f1) := by
      rw [ho]; rcases h2 with e | e <;> rw [e] <;> rfl
    rw [e]; exact this
end Go.Proofs.Ytjmbkbnbepmhjaa.Pure
