/-
  No cell of these rows narrows 'for every input' (looked for: loops, veiled, ifaces, maps, wideKeys, modest, calm, conditions, laid).
  DERIVED. THE GIVEN ROWS OF THIS SEAT. 8 by the template 'for every input the law returns true; each argument reads behind the call as it read before'; 0 by the template 'total and deterministic' (their statements: YtjmbkbnbepmhjaaTotals.lean).
  GIVEN WITH THE SEED: the statements are not yours to turn. If you find one false, say at which input.
  Laid BY PROGRAM, IN A SANDBOX (cutbox-rows.mjs): the forced cells as the released guide's own fill.sh prints them over the translation 1a005c59ce1f0fd2… (all of the seat's roots in one cut). By AI agents, Wed Nov 11 2026. No macro, syntax, notation, axiom, sorry.
-/
import Derived.Test.YtjmbkbnbepmhjaaChecked
import GoSem.Claim
import GoSem.ClaimJoined
import GoSem.ClaimMapViews
import Derived.JoinedTies
import Derived.KernelRfl
namespace Go.Proofs.Ytjmbkbnbepmhjaa
/- THE CELL 'sum', in the pinned program and in every row, IS THE sha256 OF THE DUMP (.gsa) THAT YtjmbkbnbepmhjaaProg.lean LOADS. Nothing in Lean hashes anything: it is a label: what it is worth is what the hold of that sum in a sandbox is worth. -/
noncomputable def Try.pinned : Pinned := { name := "ytjmbkbnbepmhjaa", sum := "1a005c59ce1f0fd2dc0c06176e03486f447a2d22b5869ea188da90e8e5f29930", checked := Try.checked }
namespace Rows
def none {H : Type} : Left H := { results := [], args := [] }

/-- 'salchowlaw25.CompareScripts': WHATEVER THE INPUT: true; the input reads as it did. -/
def compareScriptsSpec : ChangeSpec := { name := "compareScripts", fn := fun _ => fun
  | [d1, d2] => { results := [.lit (.bool true)], args := [d1, d2] }
  | _ => none }
def compareScriptsRow : OpenClaim := { program := "ytjmbkbnbepmhjaa", sum := "1a005c59ce1f0fd2dc0c06176e03486f447a2d22b5869ea188da90e8e5f29930", func := "salchow/salchowlaw25.CompareScripts", spec := "compareScripts", apart := false }
def CompareScriptsSaid : Prop := compareScriptsRow.holds Try.pinned (OpenSpec.ofChange compareScriptsSpec)

/-- ITS FALSE NEIGHBOUR: 'it returns false'. Refute it at one input. -/
def compareScriptsWrong : ChangeSpec := { name := "compareScripts", fn := fun _ => fun
  | [d1, d2] => { results := [.lit (.bool false)], args := [d1, d2] }
  | _ => none }
def CompareScriptsWrongFalsely : Prop := compareScriptsRow.holds Try.pinned (OpenSpec.ofChange compareScriptsWrong)

/-- 'salchowlaw25.CompareApplies': WHATEVER THE INPUT: true; the input reads as it did. -/
def compareAppliesSpec : ChangeSpec := { name := "compareApplies", fn := fun _ => fun
  | [d1, d2] => { results := [.lit (.bool true)], args := [d1, d2] }
  | _ => none }
def compareAppliesRow : OpenClaim := { program := "ytjmbkbnbepmhjaa", sum := "1a005c59ce1f0fd2dc0c06176e03486f447a2d22b5869ea188da90e8e5f29930", func := "salchow/salchowlaw25.CompareApplies", spec := "compareApplies", apart := false }
def CompareAppliesSaid : Prop := compareAppliesRow.holds Try.pinned (OpenSpec.ofChange compareAppliesSpec)

/-- ITS FALSE NEIGHBOUR: 'it returns false'. Refute it at one input. -/
def compareAppliesWrong : ChangeSpec := { name := "compareApplies", fn := fun _ => fun
  | [d1, d2] => { results := [.lit (.bool false)], args := [d1, d2] }
  | _ => none }
def CompareAppliesWrongFalsely : Prop := compareAppliesRow.holds Try.pinned (OpenSpec.ofChange compareAppliesWrong)

/-- 'salchowlaw25.CompareMetric': WHATEVER THE INPUT: true; the input reads as it did. -/
def compareMetricSpec : ChangeSpec := { name := "compareMetric", fn := fun _ => fun
  | [d1, d2, d3] => { results := [.lit (.bool true)], args := [d1, d2, d3] }
  | _ => none }
def compareMetricRow : OpenClaim := { program := "ytjmbkbnbepmhjaa", sum := "1a005c59ce1f0fd2dc0c06176e03486f447a2d22b5869ea188da90e8e5f29930", func := "salchow/salchowlaw25.CompareMetric", spec := "compareMetric", apart := false }
def CompareMetricSaid : Prop := compareMetricRow.holds Try.pinned (OpenSpec.ofChange compareMetricSpec)

/-- ITS FALSE NEIGHBOUR: 'it returns false'. Refute it at one input. -/
def compareMetricWrong : ChangeSpec := { name := "compareMetric", fn := fun _ => fun
  | [d1, d2, d3] => { results := [.lit (.bool false)], args := [d1, d2, d3] }
  | _ => none }
def CompareMetricWrongFalsely : Prop := compareMetricRow.holds Try.pinned (OpenSpec.ofChange compareMetricWrong)

/-- 'salchowlaw25.CompareLoses': WHATEVER THE INPUT: true; the input reads as it did. -/
def compareLosesSpec : ChangeSpec := { name := "compareLoses", fn := fun _ => fun
  | [d1, d2] => { results := [.lit (.bool true)], args := [d1, d2] }
  | _ => none }
def compareLosesRow : OpenClaim := { program := "ytjmbkbnbepmhjaa", sum := "1a005c59ce1f0fd2dc0c06176e03486f447a2d22b5869ea188da90e8e5f29930", func := "salchow/salchowlaw25.CompareLoses", spec := "compareLoses", apart := false }
def CompareLosesSaid : Prop := compareLosesRow.holds Try.pinned (OpenSpec.ofChange compareLosesSpec)

/-- ITS FALSE NEIGHBOUR: 'it returns false'. Refute it at one input. -/
def compareLosesWrong : ChangeSpec := { name := "compareLoses", fn := fun _ => fun
  | [d1, d2] => { results := [.lit (.bool false)], args := [d1, d2] }
  | _ => none }
def CompareLosesWrongFalsely : Prop := compareLosesRow.holds Try.pinned (OpenSpec.ofChange compareLosesWrong)

/-- 'salchowlaw25.CompareMakes': WHATEVER THE INPUT: true; the input reads as it did. -/
def compareMakesSpec : ChangeSpec := { name := "compareMakes", fn := fun _ => fun
  | [d1, d2] => { results := [.lit (.bool true)], args := [d1, d2] }
  | _ => none }
def compareMakesRow : OpenClaim := { program := "ytjmbkbnbepmhjaa", sum := "1a005c59ce1f0fd2dc0c06176e03486f447a2d22b5869ea188da90e8e5f29930", func := "salchow/salchowlaw25.CompareMakes", spec := "compareMakes", apart := false }
def CompareMakesSaid : Prop := compareMakesRow.holds Try.pinned (OpenSpec.ofChange compareMakesSpec)

/-- ITS FALSE NEIGHBOUR: 'it returns false'. Refute it at one input. -/
def compareMakesWrong : ChangeSpec := { name := "compareMakes", fn := fun _ => fun
  | [d1, d2] => { results := [.lit (.bool false)], args := [d1, d2] }
  | _ => none }
def CompareMakesWrongFalsely : Prop := compareMakesRow.holds Try.pinned (OpenSpec.ofChange compareMakesWrong)

/-- 'salchowlaw25.CompareLeast': WHATEVER THE INPUT: true; the input reads as it did. -/
def compareLeastSpec : ChangeSpec := { name := "compareLeast", fn := fun _ => fun
  | [d1, d2] => { results := [.lit (.bool true)], args := [d1, d2] }
  | _ => none }
def compareLeastRow : OpenClaim := { program := "ytjmbkbnbepmhjaa", sum := "1a005c59ce1f0fd2dc0c06176e03486f447a2d22b5869ea188da90e8e5f29930", func := "salchow/salchowlaw25.CompareLeast", spec := "compareLeast", apart := false }
def CompareLeastSaid : Prop := compareLeastRow.holds Try.pinned (OpenSpec.ofChange compareLeastSpec)

/-- ITS FALSE NEIGHBOUR: 'it returns false'. Refute it at one input. -/
def compareLeastWrong : ChangeSpec := { name := "compareLeast", fn := fun _ => fun
  | [d1, d2] => { results := [.lit (.bool false)], args := [d1, d2] }
  | _ => none }
def CompareLeastWrongFalsely : Prop := compareLeastRow.holds Try.pinned (OpenSpec.ofChange compareLeastWrong)

/-- 'salchowlaw25.CompareInverts': WHATEVER THE INPUT: true; the input reads as it did. -/
def compareInvertsSpec : ChangeSpec := { name := "compareInverts", fn := fun _ => fun
  | [d1, d2] => { results := [.lit (.bool true)], args := [d1, d2] }
  | _ => none }
def compareInvertsRow : OpenClaim := { program := "ytjmbkbnbepmhjaa", sum := "1a005c59ce1f0fd2dc0c06176e03486f447a2d22b5869ea188da90e8e5f29930", func := "salchow/salchowlaw25.CompareInverts", spec := "compareInverts", apart := false }
def CompareInvertsSaid : Prop := compareInvertsRow.holds Try.pinned (OpenSpec.ofChange compareInvertsSpec)

/-- ITS FALSE NEIGHBOUR: 'it returns false'. Refute it at one input. -/
def compareInvertsWrong : ChangeSpec := { name := "compareInverts", fn := fun _ => fun
  | [d1, d2] => { results := [.lit (.bool false)], args := [d1, d2] }
  | _ => none }
def CompareInvertsWrongFalsely : Prop := compareInvertsRow.holds Try.pinned (OpenSpec.ofChange compareInvertsWrong)

/-- 'salchowlaw25.CompareTotals': WHATEVER THE INPUT: true; the input reads as it did. -/
def compareTotalsSpec : ChangeSpec := { name := "compareTotals", fn := fun _ => fun
  | [d1, d2] => { results := [.lit (.bool true)], args := [d1, d2] }
  | _ => none }
def compareTotalsRow : OpenClaim := { program := "ytjmbkbnbepmhjaa", sum := "1a005c59ce1f0fd2dc0c06176e03486f447a2d22b5869ea188da90e8e5f29930", func := "salchow/salchowlaw25.CompareTotals", spec := "compareTotals", apart := false }
def CompareTotalsSaid : Prop := compareTotalsRow.holds Try.pinned (OpenSpec.ofChange compareTotalsSpec)

/-- ITS FALSE NEIGHBOUR: 'it returns false'. Refute it at one input. -/
def compareTotalsWrong : ChangeSpec := { name := "compareTotals", fn := fun _ => fun
  | [d1, d2] => { results := [.lit (.bool false)], args := [d1, d2] }
  | _ => none }
def CompareTotalsWrongFalsely : Prop := compareTotalsRow.holds Try.pinned (OpenSpec.ofChange compareTotalsWrong)

/- THE SECOND FORM. 'bulk': how many values and letters a reading holds, each counted each time it is reached (what is shared counts as often as it is met; a slice's spare places count too). A statement '..UptoSaid' is the law's where the arguments, and the package variables that the reading takes, are together of bulk at most 1048576: NARROWER than '..Said'. Prove '..Said' where nothing that the law and all that it calls make is longer than what came in: it says more and counts as full. Else prove '..UptoSaid'. A law counts once. -/
mutual
def uptoBulk {H : Type} : DataW H → Nat
  | .lit (.string bytes) => bytes.length + 1
  | .lit _ => 1
  | .nil => 1
  | .ptr d => uptoBulk d + 1
  | .slice elems spare => uptoBulkAll elems + uptoBulkAll spare + 1
  | .agg parts => uptoBulkAll parts + 1
  | .iface _ d => uptoBulk d + 1
  | .map entries => uptoBulkEntries entries + 1
  | .held _ => 1
def uptoBulkAll {H : Type} : List (DataW H) → Nat
  | [] => 0
  | d :: r => uptoBulk d + uptoBulkAll r
def uptoBulkEntries {H : Type} : List (Lit × DataW H) → Nat
  | [] => 0
  | x :: r => uptoBulkEntry x + uptoBulkEntries r
def uptoBulkEntry {H : Type} : Lit × DataW H → Nat
  | (.string bytes, d) => bytes.length + uptoBulk d + 1
  | (_, d) => uptoBulk d + 1
 end
def uptoSmall : (H : Type) → List (DataW H) → Bool := fun _ ds => decide (uptoBulkAll ds ≤ 1048576)
def OpenSpec.upto (s : _root_.Go.ChangeSpec) : _root_.Go.OpenSpec := { _root_.Go.OpenSpec.ofChange s with cond := some uptoSmall }

/-- 'salchowlaw25.CompareScripts', WHERE WHAT IT READS IS OF BULK AT MOST 1048576: true; the input reads as it did. -/
def compareScriptsUptoRow : OpenClaim := { program := "ytjmbkbnbepmhjaa", sum := "1a005c59ce1f0fd2dc0c06176e03486f447a2d22b5869ea188da90e8e5f29930", func := "salchow/salchowlaw25.CompareScripts", spec := "compareScripts", apart := false, narrowed := true }
def CompareScriptsUptoSaid : Prop := compareScriptsUptoRow.holds Try.pinned (OpenSpec.upto compareScriptsSpec)

/-- 'salchowlaw25.CompareApplies', WHERE WHAT IT READS IS OF BULK AT MOST 1048576: true; the input reads as it did. -/
def compareAppliesUptoRow : OpenClaim := { program := "ytjmbkbnbepmhjaa", sum := "1a005c59ce1f0fd2dc0c06176e03486f447a2d22b5869ea188da90e8e5f29930", func := "salchow/salchowlaw25.CompareApplies", spec := "compareApplies", apart := false, narrowed := true }
def CompareAppliesUptoSaid : Prop := compareAppliesUptoRow.holds Try.pinned (OpenSpec.upto compareAppliesSpec)

/-- 'salchowlaw25.CompareMetric', WHERE WHAT IT READS IS OF BULK AT MOST 1048576: true; the input reads as it did. -/
def compareMetricUptoRow : OpenClaim := { program := "ytjmbkbnbepmhjaa", sum := "1a005c59ce1f0fd2dc0c06176e03486f447a2d22b5869ea188da90e8e5f29930", func := "salchow/salchowlaw25.CompareMetric", spec := "compareMetric", apart := false, narrowed := true }
def CompareMetricUptoSaid : Prop := compareMetricUptoRow.holds Try.pinned (OpenSpec.upto compareMetricSpec)

/-- 'salchowlaw25.CompareLoses', WHERE WHAT IT READS IS OF BULK AT MOST 1048576: true; the input reads as it did. -/
def compareLosesUptoRow : OpenClaim := { program := "ytjmbkbnbepmhjaa", sum := "1a005c59ce1f0fd2dc0c06176e03486f447a2d22b5869ea188da90e8e5f29930", func := "salchow/salchowlaw25.CompareLoses", spec := "compareLoses", apart := false, narrowed := true }
def CompareLosesUptoSaid : Prop := compareLosesUptoRow.holds Try.pinned (OpenSpec.upto compareLosesSpec)

/-- 'salchowlaw25.CompareMakes', WHERE WHAT IT READS IS OF BULK AT MOST 1048576: true; the input reads as it did. -/
def compareMakesUptoRow : OpenClaim := { program := "ytjmbkbnbepmhjaa", sum := "1a005c59ce1f0fd2dc0c06176e03486f447a2d22b5869ea188da90e8e5f29930", func := "salchow/salchowlaw25.CompareMakes", spec := "compareMakes", apart := false, narrowed := true }
def CompareMakesUptoSaid : Prop := compareMakesUptoRow.holds Try.pinned (OpenSpec.upto compareMakesSpec)

/-- 'salchowlaw25.CompareLeast', WHERE WHAT IT READS IS OF BULK AT MOST 1048576: true; the input reads as it did. -/
def compareLeastUptoRow : OpenClaim := { program := "ytjmbkbnbepmhjaa", sum := "1a005c59ce1f0fd2dc0c06176e03486f447a2d22b5869ea188da90e8e5f29930", func := "salchow/salchowlaw25.CompareLeast", spec := "compareLeast", apart := false, narrowed := true }
def CompareLeastUptoSaid : Prop := compareLeastUptoRow.holds Try.pinned (OpenSpec.upto compareLeastSpec)

/-- 'salchowlaw25.CompareInverts', WHERE WHAT IT READS IS OF BULK AT MOST 1048576: true; the input reads as it did. -/
def compareInvertsUptoRow : OpenClaim := { program := "ytjmbkbnbepmhjaa", sum := "1a005c59ce1f0fd2dc0c06176e03486f447a2d22b5869ea188da90e8e5f29930", func := "salchow/salchowlaw25.CompareInverts", spec := "compareInverts", apart := false, narrowed := true }
def CompareInvertsUptoSaid : Prop := compareInvertsUptoRow.holds Try.pinned (OpenSpec.upto compareInvertsSpec)

/-- 'salchowlaw25.CompareTotals', WHERE WHAT IT READS IS OF BULK AT MOST 1048576: true; the input reads as it did. -/
def compareTotalsUptoRow : OpenClaim := { program := "ytjmbkbnbepmhjaa", sum := "1a005c59ce1f0fd2dc0c06176e03486f447a2d22b5869ea188da90e8e5f29930", func := "salchow/salchowlaw25.CompareTotals", spec := "compareTotals", apart := false, narrowed := true }
def CompareTotalsUptoSaid : Prop := compareTotalsUptoRow.holds Try.pinned (OpenSpec.upto compareTotalsSpec)

end Rows
end Go.Proofs.Ytjmbkbnbepmhjaa
