/- Small words on 'from some number of rounds on': the plain side of the proofs. -/
import Derived.Test.YtjmbkbnbepmhjaaWa
namespace Go.Proofs.Ytjmbkbnbepmhjaa.E
open Go.RowKit Go.Proofs.YtjmbkbnbepmhjaaW.PrintWords Go.Proofs.YtjmbkbnbepmhjaaW.PrintLast
set_option linter.unusedVariables false

theorem ev_pos {α : Type} {c : Prop} [Decidable c] {f g : Nat → Option α} {r : α} (h : c) (hf : Ev f r) : Ev (fun k => if c then f k else g k) r := by
  simpa only [if_pos h] using hf
theorem ev_neg {α : Type} {c : Prop} [Decidable c] {f g : Nat → Option α} {r : α} (h : ¬ c) (hg : Ev g r) : Ev (fun k => if c then f k else g k) r := by
  simpa only [if_neg h] using hg
theorem ev_ite {α : Type} {c : Prop} [Decidable c] {f g : Nat → Option α} {r : α} (hf : c → Ev f r) (hg : ¬ c → Ev g r) : Ev (fun k => if c then f k else g k) r := by
  by_cases h : c
  · exact ev_pos h (hf h)
  · exact ev_neg h (hg h)
theorem ev_round {α : Type} {g : Nat → Option α} {r : α} (h : Ev (fun k => g (k + 1)) r) : Ev g r := Ev.step (fun _ => rfl) h
theorem ev_later {α : Type} {g : Nat → Option α} {r : α} (h : Ev g r) : Ev (fun k => g (k + 1)) r := by
  obtain ⟨K, h⟩ := h
  exact ⟨K, fun k hk => h (k + 1) (by omega)⟩
theorem ev_call {α β : Type} {g : Nat → Option α} {f : α → Nat → Option β} {a : α} {r : β} (h : Ev g a) (k : Ev (f a) r) : Ev (fun n => (g n).bind fun t => f t n) r :=
  Ev.bind (f := fun n t => f t n) h k
theorem ev_const {α β : Type} {o : Option α} {f : α → Nat → Option β} {a : α} {r : β} (h : o = some a) (k : Ev (f a) r) : Ev (fun n => o.bind fun t => f t n) r := by
  subst h; exact k
theorem ev_end {α : Type} {a r : α} (h : a = r) : Ev (fun _ => some a) r := h ▸ Ev.now a
theorem ev_unique {α : Type} {g : Nat → Option α} {a b : α} (h : Ev g a) (h' : Ev g b) : a = b := by
  obtain ⟨K, h⟩ := h
  obtain ⟨K', h'⟩ := h'
  have e1 := h (max K K') (by omega)
  have e2 := h' (max K K') (by omega)
  rw [e1] at e2
  exact Option.some.inj e2
/-- Downward: from the last round to the first. -/
theorem down {P : Nat → Prop} (n : Nat) (he : P n) (hs : ∀ j, j < n → P (j + 1) → P j) : ∀ j, j ≤ n → P j := by
  intro j hj
  obtain ⟨d, rfl⟩ : ∃ d, n = j + d := ⟨n - j, by omega⟩
  induction d generalizing j with
  | zero => exact he
  | succ d ih =>
    refine hs j (by omega) ?_
    have e : j + (d + 1) = (j + 1) + d := by omega
    rw [e] at he
    exact ih (j + 1) (by omega) (by rw [← e]; exact hs) (by omega) |> fun h => by simpa using h
theorem wid {x : Int} (h0 : -9223372036854775808 ≤ x) (h1 : x ≤ 9223372036854775807) : wrap64 x = x := by unfold wrap64; omega
theorem bdec {P : Prop} [Decidable P] {b : Bool} (h : b = true ↔ P) : b = decide P := by
  rw [Bool.eq_iff_iff, decide_eq_true_eq]; exact h
theorem rd_get (xs : List Int) (j : Nat) : rd xs (j : Int) = xs.getD j 0 := by unfold rd; rw [Int.toNat_natCast]
theorem rd_nat (xs : List Int) (j : Nat) (h : j < xs.length) : rd xs (j : Int) = xs[j] := by
  rw [rd_get, List.getD_eq_getElem?_getD, List.getElem?_eq_getElem h]; rfl
end Go.Proofs.Ytjmbkbnbepmhjaa.E
