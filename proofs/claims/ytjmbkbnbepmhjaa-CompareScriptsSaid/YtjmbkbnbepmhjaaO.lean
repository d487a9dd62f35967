/- Opening an argument: what is read of it as data is a value of its kind. -/
import Derived.Test.YtjmbkbnbepmhjaaWa
import Derived.SizedLaws
import Derived.Deep.Slices
import Derived.ChangeArms
namespace Go.Proofs.Ytjmbkbnbepmhjaa.Op
open Go.RowKit Go.Proofs.YtjmbkbnbepmhjaaW.PrintWords Go.Proofs.YtjmbkbnbepmhjaaW.PrintLast
set_option linter.unusedVariables false

/-- Whatever reads as data of type t is a value of kind d of which ok is true. -/
def Opens {α : Type} (P : Program) (t : TypeId) (d : Kd α) (ok : α → Prop) : Prop :=
  ∀ {H : Type} (enc : TypeId × Value → H) (w : World) (base : Nat) (spare : Nat → Bool) (held : Bool) (fuel : Nat) (cs : List Value) (x : DataW H × List MemPlace),
    DataW.trod enc P w base spare held fuel t cs = some x → ∃ a, ok a ∧ d.K w a cs

theorem opens_int {P : Program} {t : TypeId} {k : IntKind} (ht : P.underlying t = some (.int k)) : Opens P t (Kd.int k) (fun n => (Lit.int k n).wf = true) := by
  intro H enc w base spare held fuel cs x h
  obtain ⟨n, rfl, _, hw⟩ := DataW.trod_int ht h
  exact ⟨n, hw, rfl⟩
theorem opens_bool {P : Program} {t : TypeId} (ht : P.underlying t = some .bool) : Opens P t Kd.bool (fun _ => True) := by
  intro H enc w base spare held fuel cs x h
  obtain ⟨n, rfl, _⟩ := DataW.trod_bool ht h
  exact ⟨n, trivial, rfl⟩
theorem opens_string {P : Program} {t : TypeId} (ht : P.underlying t = some .string) : Opens P t Kd.string (fun s => s.size ≤ maxLen) := by
  intro H enc w base spare held fuel cs x h
  obtain ⟨s, rfl, _, hw⟩ := DataW.trod_string ht h
  exact ⟨s, hw, rfl⟩

theorem add_add (a : Addr) (x y : Nat) : (a.add x).add y = a.add (x + y) := by
  unfold Addr.add
  by_cases h : x = 0 <;> by_cases h' : y = 0 <;> simp [h, h', Nat.add_assoc]

def okList {α : Type} (ok : α → Prop) (l : List α) : Prop := l.length ≤ maxLen ∧ ∀ x ∈ l, ok x

theorem opens_slice {α : Type} [Inhabited α] {P : Program} {t e : TypeId} {d : Kd α} {ok : α → Prop} (ht : P.underlying t = some (.slice e)) (hs : P.cellsOf e = d.sz) (he : Opens P e d ok) :
    Opens P t (Kd.slice e d) (okList ok) := by
  intro H enc w base spare held fuel cs x h
  rcases DataW.trod_slice ht h with ⟨rfl, _⟩ | ⟨a, len, cap, elems, rest, n, _, rfl, _, hb, hl, hm, hlen, hel, _, _⟩
  · exact ⟨[], ⟨Nat.zero_le _, fun x hx => by cases hx⟩, none, 0, rfl, Nat.le_refl _, Kd.C_nil _ _⟩
  · have each : ∀ i, i < len → ∃ y : α, ok y ∧ ∃ c, w.cells? base (a.add (i * P.cellsOf e)) (P.cellsOf e) = some c ∧ d.K w y c := by
      intro i hi
      have h1 := hel i hi
      rw [List.getElem?_eq_getElem (by omega)] at h1
      obtain ⟨c, hc, h2⟩ := Option.bind_eq_some_iff.mp h1
      obtain ⟨y, hy, hk⟩ := he enc w base spare held n c _ h2
      exact ⟨y, hy, c, hc, hk⟩
    obtain ⟨F, hF⟩ := Go.Deep.choose_lt each
    have hlen2 : ((List.range len).map F).length = len := by simp
    refine ⟨(List.range len).map F, ⟨by rw [hlen2]; omega, ?_⟩, some a, cap, by rw [hlen2], by rw [hlen2]; exact hl, rfl, ?_, ?_⟩
    · intro x hx
      obtain ⟨i, hi, rfl⟩ := List.mem_map.mp hx
      exact (hF i (List.mem_range.mp hi)).1
    · rw [hlen2]; unfold maxLen at hm; omega
    · intro _
      refine ⟨a, rfl, ?_⟩
      intro j p hp
      have hj : j < len := by
        have := (List.getElem?_eq_some_iff.mp hp).1
        omega
      have e1 : p = F j := by
        rw [List.getElem?_map, List.getElem?_range hj] at hp
        simpa using hp.symm
      obtain ⟨_, c, hc, hk⟩ := hF j hj
      subst e1
      refine ⟨c, d.K_len hk, hk, ?_⟩
      intro i u hu
      obtain ⟨_, hsz, hcell⟩ := World.cells?_some hc
      have hi : i < c.length := (List.getElem?_eq_some_iff.mp hu).1
      have h3 := hcell i (by omega)
      rw [hs] at h3
      rw [← hu, ← h3]
      rw [add_add]

/-- Fields in line, from offset off on. -/
def OpensL {α : Type} (P : Program) (off : Nat) (fs : List (TypeId × Nat)) (d : Kd α) (ok : α → Prop) : Prop :=
  ∀ {H : Type} (enc : TypeId × Value → H) (w : World) (base : Nat) (spare : Nat → Bool) (held : Bool) (fuel : Nat) (cs : List Value),
    (∀ f ∈ fs, ∃ x, DataW.trod enc P w base spare held fuel f.1 ((cs.drop f.2).take (P.cellsOf f.1)) = some x) → ∃ a, ok a ∧ d.K w a ((cs.drop off).take d.sz)
theorem opensL_one {α : Type} {P : Program} {off : Nat} {t : TypeId} {d : Kd α} {ok : α → Prop} (hs : P.cellsOf t = d.sz) (h : Opens P t d ok) : OpensL P off [(t, off)] d ok := by
  intro H enc w base spare held fuel cs hf
  obtain ⟨x, hx⟩ := hf (t, off) (List.mem_singleton.mpr rfl)
  rw [← hs]
  exact h enc w base spare held fuel _ x hx
theorem opensL_cons {α β : Type} {P : Program} {off : Nat} {t : TypeId} {fs : List (TypeId × Nat)} {d : Kd α} {d' : Kd β} {ok : α → Prop} {ok' : β → Prop} (hs : P.cellsOf t = d.sz) (h : Opens P t d ok) (h' : OpensL P (off + d.sz) fs d' ok') :
    OpensL P off ((t, off) :: fs) (Kd.pair d d') (fun x => ok x.1 ∧ ok' x.2) := by
  intro H enc w base spare held fuel cs hf
  obtain ⟨x, hx⟩ := hf (t, off) List.mem_cons_self
  obtain ⟨a, ha, hk⟩ := h enc w base spare held fuel _ x hx
  obtain ⟨b, hb, hk'⟩ := h' enc w base spare held fuel cs (fun f hm => hf f (List.mem_cons_of_mem _ hm))
  refine ⟨(a, b), ⟨ha, hb⟩, (cs.drop off).take d.sz, ((cs.drop (off + d.sz)).take d'.sz), ?_, ?_, hk'⟩
  · show (cs.drop off).take (d.sz + d'.sz) = _
    rw [List.take_add, List.drop_drop]
  · rw [hs] at hk; exact hk
theorem opens_struct {α β : Type} {P : Program} {t : TypeId} {fs : Array Field} {d : Kd α} {ok : α → Prop} (mk : α → β) (pr : β → α) (hp : ∀ a, pr (mk a) = a) (ht : P.underlying t = some (.struct fs)) (hs : P.cellsOf t = d.sz)
    (h : OpensL P 0 (fs.toList.map fun f => (f.type, f.offset)) d ok) : Opens P t (Kd.iso d pr) (fun x => ok (pr x)) := by
  intro H enc w base spare held fuel cs x hx
  obtain ⟨xs, n, _, _, hl, hlen, hf⟩ := DataW.trod_struct ht hx
  obtain ⟨a, ha, hk⟩ := h enc w base spare held n cs (fun f hm => by
    obtain ⟨g, hg, rfl⟩ := List.mem_map.mp hm
    obtain ⟨i, hi, rfl⟩ := List.mem_iff_getElem.mp hg
    have hi' : i < fs.size := by simpa using hi
    have h1 := hf i fs[i] (by simp [hi'])
    have h2 : xs[i]? = some (xs[i]'(by omega)) := List.getElem?_eq_getElem (by omega)
    rw [h2] at h1
    exact ⟨_, by simpa using h1⟩)
  refine ⟨mk a, by show ok (pr (mk a)); rw [hp]; exact ha, ?_⟩
  show d.K w (pr (mk a)) cs
  rw [hp]
  rw [List.drop_zero, ← hs, ← hl, List.take_length] at hk
  exact hk

/-- An argument that is a slice. -/
theorem open_arg {α : Type} {H : Type} {enc : TypeId × Value → H} {P : Program} {w : World} {base : Nat} {spare : Nat → Bool} {held : Bool} {t e : TypeId} {d : Kd α} {ok : α → Prop} {a : Option Addr} {len cap : Nat} {x : DataW H} {p : List MemPlace}
    (ho : Opens P t (Kd.slice e d) (okList ok)) (h : DataW.Trod enc P w base spare held t (.slice a len cap) x p) : ∃ l : List α, okList ok l ∧ len = l.length ∧ l.length ≤ cap ∧ d.C w a l.length l := by
  obtain ⟨fuel, hf⟩ := h
  obtain ⟨l, hl, A, c, e1, h1, h2⟩ := ho enc w base spare held fuel _ _ hf
  have e2 : [Value.slice a len cap] = [Value.slice A l.length c] := e1
  simp only [List.cons.injEq, Value.slice.injEq, and_true] at e2
  obtain ⟨rfl, rfl, rfl⟩ := e2
  exact ⟨l, hl, rfl, h1, h2⟩
end Go.Proofs.Ytjmbkbnbepmhjaa.Op
