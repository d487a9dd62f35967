/- All assignments in order: what the program's search and the specification's list come to. -/
import Derived.Test.YtaodpgblleiiaaaYb
import Derived.Test.YtaodpgblleiiaaaPx19
import Derived.Test.YtaodpgblleiiaaaPx25
namespace Go.Proofs.Ytaodpgblleiiaaa.E
open Go.RowKit Go.Proofs.YtaodpgblleiiaaaW.PrintWords Go.Proofs.YtaodpgblleiiaaaW.PrintLast Go.Proofs.Ytaodpgblleiiaaa.P
set_option linter.unusedVariables false

def tailF (F : Nat → List (List Int)) : Nat → Nat → List (List Int)
  | _, 0 => []
  | g, m + 1 => F g ++ tailF F (g + 1) m
/-- All assignments that begin with p; d numbers are still to be found. -/
def allR (n : Nat) : Nat → List Int → List (List Int)
  | 0, p => [p]
  | d + 1, p => tailF (fun g => if (g : Int) ∈ p then [] else allR n d (p ++ [(g : Int)])) 0 n
theorem mem_tailF {F : Nat → List (List Int)} {x : List Int} : ∀ {m g : Nat}, x ∈ tailF F g m ↔ ∃ i, g ≤ i ∧ i < g + m ∧ x ∈ F i
  | 0, g => by simp [tailF]; intro i h1 h2; omega
  | m + 1, g => by
    rw [tailF, List.mem_append, mem_tailF]
    constructor
    · rintro (h | ⟨i, h1, h2, h3⟩)
      · exact ⟨g, by omega, by omega, h⟩
      · exact ⟨i, by omega, by omega, h3⟩
    · rintro ⟨i, h1, h2, h3⟩
      by_cases e : i = g
      · subst e; exact .inl h3
      · exact .inr ⟨i, by omega, by omega, h3⟩
theorem len_tailF {F : Nat → List (List Int)} {B : Nat} : ∀ {m g : Nat}, (∀ i, g ≤ i → i < g + m → (F i).length ≤ B) → (tailF F g m).length ≤ m * B
  | 0, g, _ => by simp [tailF]
  | m + 1, g, h => by
    rw [tailF, List.length_append]
    have h1 := h g (by omega) (by omega)
    have h2 := len_tailF (F := F) (B := B) (m := m) (g := g + 1) (fun i a b => h i (by omega) (by omega))
    have : (m + 1) * B = m * B + B := by rw [Nat.add_mul, Nat.one_mul]
    omega
theorem len_allR (n : Nat) : ∀ (d : Nat) (p : List Int), (allR n d p).length ≤ n ^ d
  | 0, p => by simp [allR]
  | d + 1, p => by
    rw [allR, Nat.pow_succ, Nat.mul_comm]
    refine len_tailF (fun i _ _ => ?_)
    split
    · simp
    · exact len_allR n d _
/-- Numbers of groups, no two of them the same. -/
def Pre (n : Nat) (p : List Int) : Prop := (∀ x ∈ p, 0 ≤ x ∧ x < (n : Int)) ∧ p.Nodup
theorem pre_snoc {n : Nat} {p : List Int} {g : Nat} (h : Pre n p) (hg : g < n) (hm : (g : Int) ∉ p) : Pre n (p ++ [(g : Int)]) := by
  refine ⟨fun x hx => ?_, ?_⟩
  · rw [List.mem_append, List.mem_singleton] at hx
    rcases hx with hx | rfl
    · exact h.1 x hx
    · omega
  · rw [List.nodup_append]
    refine ⟨h.2, by simp, ?_⟩
    intro a ha b hb e
    rw [List.mem_singleton] at hb
    subst hb; subst e
    exact hm ha
theorem all_good (n : Nat) : ∀ (d : Nat) (p q : List Int), Pre n p → p.length + d = n → q ∈ allR n d p → Good n q
  | 0, p, q, hp, hl, hq => by
    rw [allR, List.mem_singleton] at hq
    subst hq
    exact ⟨by omega, hp.1, hp.2⟩
  | d + 1, p, q, hp, hl, hq => by
    rw [allR, mem_tailF] at hq
    obtain ⟨i, _, h2, h3⟩ := hq
    split at h3
    · cases h3
    · rename_i hm
      exact all_good n d _ q (pre_snoc hp (by omega) hm) (by simp; omega) h3
theorem good_all (n : Nat) : ∀ (r p : List Int), Good n (p ++ r) → p ++ r ∈ allR n r.length p
  | [], p, _ => by simp [allR]
  | g :: r, p, h => by
    obtain ⟨h1, h2, h3⟩ := h
    have hg := h2 g (by simp)
    have hm : g ∉ p := by
      intro hm
      rw [List.nodup_append] at h3
      exact h3.2.2 g hm g (by simp) rfl
    rw [List.length_cons, allR, mem_tailF]
    refine ⟨g.toNat, by omega, by omega, ?_⟩
    have e : ((g.toNat : Nat) : Int) = g := Int.toNat_of_nonneg hg.1
    simp only [e]
    rw [if_neg hm]
    have := good_all n r (p ++ [g]) (by rw [List.append_assoc]; exact ⟨h1, h2, h3⟩)
    rw [List.append_assoc] at this
    exact this

/-- When the last rotation ends, under an assignment. -/
def endV (sizes secs : List Int) (pause : Int) (p : List Int) : Int := start_ (cyc sizes.length) (p.map fun g => rd sizes g) secs pause sizes.length
def upd (sizes secs : List Int) (pause : Int) (s : List Int × Int) (p : List Int) : List Int × Int := if s.1 = [] ∨ endV sizes secs pause p < s.2 then (p, endV sizes secs pause p) else s
theorem cyc_len (n : Nat) : (cyc n).length = n := upto_len _ _
theorem table_rd (s : List (List Int)) (a b : List Int) (c : Int) (n : Nat) : (table_ s a b c (n + 1)).length = n + 1 ∧ rd (table_ s a b c (n + 1)) (n : Int) = start_ s a b c n := by
  unfold table_
  exact ⟨upto_len _ _, upto_rd _ _ _ (by omega)⟩
theorem ev_congr {α : Type} {f g : Nat → Option α} {r : α} (e : ∀ k, f k = g k) (h : Ev g r) : Ev f r := by
  obtain rfl : f = g := funext e
  exact h
theorem asg_ev (sizes secs : List Int) (pause : Int) (n : Nat) (hn : sizes.length = n) (h1 : 1 ≤ n) (h6 : n ≤ 6) (hs : secs.length = n) : ∀ (d : Nat) (p best : List Int) (fin : Int), p.length + d = n →
    Ev (fun k => asg sizes secs pause (cyc n) k p best fin) ((allR n d p).foldl (upd sizes secs pause) (best, fin))
  | 0, p, best, fin, hl => by
    refine ev_round ?_
    simp only [asg]
    refine ev_pos (by omega) ?_
    have hlat := cyc_lat n (by omega)
    have ht := times_ev (cyc n) (p.map fun g => rd sizes g) secs pause (by rw [cyc_len]; omega) (by rw [cyc_len, List.length_map]; omega) (by rw [cyc_len]; omega) hlat.1
    rw [cyc_len] at ht
    refine ev_call ht ?_
    obtain ⟨e1, e2⟩ := table_rd (cyc n) (p.map fun g => rd sizes g) secs pause n
    have ee : endV sizes secs pause p = start_ (cyc n) (p.map fun g => rd sizes g) secs pause n := by unfold endV; rw [hn]
    refine ev_pos (by omega) ?_
    rw [hn, e2, allR]
    show Ev _ (upd sizes secs pause (best, fin) p)
    unfold upd
    rw [ee]
    by_cases c : best = [] ∨ start_ (cyc n) (p.map fun g => rd sizes g) secs pause n < fin
    · exact ev_pos c (ev_end (if_pos c).symm)
    · exact ev_neg c (ev_end (if_neg c).symm)
  | d + 1, p, best, fin, hl => by
    refine ev_round ?_
    simp only [asg]
    refine ev_neg (by omega) ?_
    rw [allR]
    have loop : ∀ (m g : Nat) (best : List Int) (fin : Int), g + m = n → Ev (fun k => asgL sizes secs pause (cyc n) k p best fin g) ((tailF (fun g => if (g : Int) ∈ p then [] else allR n d (p ++ [(g : Int)])) g m).foldl (upd sizes secs pause) (best, fin)) := by
      intro m
      induction m with
      | zero =>
        intro g best fin hg
        refine ev_round ?_
        simp only [asgL]
        exact ev_neg (by omega) (ev_end rfl)
      | succ m ih =>
        intro g best fin hg
        refine ev_round ?_
        simp only [asgL]
        refine ev_pos (by omega) ?_
        rw [tailF, List.foldl_append]
        by_cases hm : (g : Int) ∈ p
        · rw [if_pos hm]
          exact ev_pos hm (ih (g + 1) best fin (by omega))
        · rw [if_neg hm]
          refine ev_neg hm (ev_call (asg_ev sizes secs pause n hn h1 h6 hs d (p ++ [(g : Int)]) best fin (by simp; omega)) ?_)
          exact ih (g + 1) _ _ (by omega)
    exact loop n 0 best fin (by omega)

theorem used_ev (p : List Int) (n : Int) (x5 : List (List Int)) (i : Nat) (hp : p.length ≤ 1000) (r : List (List Int)) (ht : ∀ u : Bool, u = decide ((i : Int) ∈ p) → Ev (fun k => salchowref36_extend.l1 k p n x5 (i : Int) u (p.length : Int)) r) :
    ∀ (j : Nat) (u : Bool), j ≤ p.length → u = decide ((i : Int) ∈ p.take j) → Ev (fun k => salchowref36_extend.l1 k p n x5 (i : Int) u (j : Int)) r := by
  refine fun j => ?_
  intro u hj
  obtain ⟨d, hd⟩ : ∃ d, p.length = j + d := ⟨p.length - j, by omega⟩
  induction d generalizing j u with
  | zero =>
    intro hu
    obtain rfl : j = p.length := by omega
    rw [List.take_length] at hu
    exact ht u hu
  | succ d ih =>
    intro hu
    have hjl : j < p.length := by omega
    have ew : wrap64 ((j : Int) + 1) = ((j + 1 : Nat) : Int) := wid (by omega) (by omega)
    have et := take_next p j hjl
    refine ev_round ?_
    simp only [salchowref36_extend.l1]
    refine ev_pos (by omega) ?_
    rw [ew]
    by_cases hm : (i : Int) ∈ p.take j
    · rw [decide_eq_true hm] at hu
      subst hu
      refine ev_pos rfl (ih (j + 1) true (by omega) (by omega) ?_)
      rw [et, decide_eq_true (List.mem_append_left _ hm)]
    · rw [decide_eq_false hm] at hu
      subst hu
      refine ev_neg (by decide) (ev_pos (by omega) (ih (j + 1) _ (by omega) (by omega) ?_))
      rw [et]
      rw [Bool.eq_iff_iff, beq_iff_eq, decide_eq_true_iff, List.mem_append, List.mem_singleton]
      exact ⟨fun e => .inr e.symm, fun e => (e.resolve_left hm).symm⟩
theorem extend_ev (n : Nat) (h5 : n ≤ 5) : ∀ (d : Nat) (p : List Int), d ≤ 5 → p.length + d = n → Ev (fun k => salchowref36_extend.f k p (n : Int)) (allR n d p)
  | 0, p, _, hl => by
    refine ev_round ?_
    simp only [salchowref36_extend.f]
    exact ev_pos (by omega) (ev_end rfl)
  | d + 1, p, hd, hl => by
    refine ev_round ?_
    simp only [salchowref36_extend.f]
    refine ev_neg (by omega) ?_
    rw [allR]
    have hB : n ^ d ≤ 3125 := by
      have h1 : n ^ d ≤ 5 ^ d := Nat.pow_le_pow_left h5 d
      have h2 : 5 ^ d ≤ 5 ^ 5 := Nat.pow_le_pow_right (by omega) (by omega)
      have h3 : 5 ^ 5 = 3125 := by decide
      omega
    have loop : ∀ (m i : Nat) (acc : List (List Int)), i + m = n → acc.length ≤ i * 3125 → Ev (fun k => salchowref36_extend.l0 k p (n : Int) acc (i : Int)) (acc ++ tailF (fun g => if (g : Int) ∈ p then [] else allR n d (p ++ [(g : Int)])) i m) := by
      intro m
      induction m with
      | zero =>
        intro i acc hi hacc
        refine ev_round ?_
        simp only [salchowref36_extend.l0]
        exact ev_neg (by omega) (ev_end (by rw [tailF, List.append_nil]))
      | succ m ih =>
        intro i acc hi hacc
        refine ev_round ?_
        simp only [salchowref36_extend.l0]
        refine ev_pos (by omega) ?_
        refine used_ev p (n : Int) acc i (by omega) _ (fun u hu => ?_) 0 false (by omega) (by simp)
        refine ev_round ?_
        simp only [salchowref36_extend.l1]
        refine ev_neg (by omega) ?_
        have ew : wrap64 ((i : Int) + 1) = ((i + 1 : Nat) : Int) := wid (by omega) (by omega)
        rw [ew, tailF]
        by_cases hm : (i : Int) ∈ p
        · rw [decide_eq_true hm] at hu
          subst hu
          rw [if_pos hm, List.nil_append]
          exact ev_pos rfl (ih (i + 1) acc (by omega) (by rw [Nat.add_mul]; exact Nat.le_trans hacc (Nat.le_add_right _ _)))
        · rw [decide_eq_false hm] at hu
          subst hu
          rw [if_neg hm]
          have hlen := len_allR n d (p ++ [(i : Int)])
          refine ev_neg (by decide) ?_
          simp only [Option.bind_some]
          refine ev_pos (by rw [List.length_nil]; omega) (ev_pos (by rw [List.nil_append]; omega) ?_)
          have := extend_ev n h5 d (p ++ [(i : Int)]) (by omega) (by simp; omega)
          rw [List.nil_append]
          have hB2 : acc.length + (allR n d (p ++ [(i : Int)])).length < 100000 := Nat.lt_of_le_of_lt (Nat.add_le_add (Nat.le_trans hacc (Nat.mul_le_mul_right _ (show i ≤ 5 by clear hB hacc; omega))) (Nat.le_trans hlen hB)) (by decide)
          refine ev_call this (ev_pos (Nat.lt_of_lt_of_le hB2 (by decide)) ?_)
          have h2 := ih (i + 1) (acc ++ allR n d (p ++ [(i : Int)])) (by omega) (by rw [List.length_append, Nat.add_mul, Nat.one_mul]; exact Nat.add_le_add hacc (Nat.le_trans hlen hB))
          rw [List.append_assoc] at h2
          exact h2
    exact loop n 0 [] (by omega) (by simp)
end Go.Proofs.Ytaodpgblleiiaaa.E
