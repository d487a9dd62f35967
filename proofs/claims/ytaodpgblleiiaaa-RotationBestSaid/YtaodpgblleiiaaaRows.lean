/-
  No cell of these rows narrows 'for every input' (looked for: loops, veiled, ifaces, maps, wideKeys, modest, calm, conditions, laid).
  DERIVED. THE GIVEN ROWS OF THIS SEAT. 10 by the template 'for every input the law returns true; each argument reads behind the call as it read before'; 0 by the template 'total and deterministic' (their statements: YtaodpgblleiiaaaTotals.lean).
  GIVEN WITH THE SEED: the statements are not yours to turn. If you find one false, say at which input.
  Laid BY PROGRAM, IN A SANDBOX (cutbox-rows.mjs): the forced cells as the released guide's own fill.sh prints them over the translation 364add18cb62cd29… (all of the seat's roots in one cut). By AI agents, Wed Nov 11 2026. No macro, syntax, notation, axiom, sorry.
-/
import Derived.Test.YtaodpgblleiiaaaChecked
import GoSem.Claim
import GoSem.ClaimJoined
import GoSem.ClaimMapViews
import Derived.JoinedTies
import Derived.KernelRfl
namespace Go.Proofs.Ytaodpgblleiiaaa
/- THE CELL 'sum', in the pinned program and in every row, IS THE sha256 OF THE DUMP (.gsa) THAT YtaodpgblleiiaaaProg.lean LOADS. Nothing in Lean hashes anything: it is a label: what it is worth is what the hold of that sum in a sandbox is worth. -/
noncomputable def Try.pinned : Pinned := { name := "ytaodpgblleiiaaa", sum := "364add18cb62cd29b84fdca0685b0597036fa6ff8cac85ee1fbde843e36925da", checked := Try.checked }
namespace Rows
def none {H : Type} : Left H := { results := [], args := [] }

/-- 'salchowlaw36.RotationSquares': WHATEVER THE INPUT: true; the input reads as it did. -/
def rotationSquaresSpec : ChangeSpec := { name := "rotationSquares", fn := fun _ => fun
  | [d] => { results := [.lit (.bool true)], args := [d] }
  | _ => none }
def rotationSquaresRow : OpenClaim := { program := "ytaodpgblleiiaaa", sum := "364add18cb62cd29b84fdca0685b0597036fa6ff8cac85ee1fbde843e36925da", func := "salchow/salchowlaw36.RotationSquares", spec := "rotationSquares", unfollowed := true, recurses := true, apart := false }
def RotationSquaresSaid : Prop := rotationSquaresRow.holds Try.pinned (OpenSpec.ofChange rotationSquaresSpec)

/-- ITS FALSE NEIGHBOUR: 'it returns false'. Refute it at one input. -/
def rotationSquaresWrong : ChangeSpec := { name := "rotationSquares", fn := fun _ => fun
  | [d] => { results := [.lit (.bool false)], args := [d] }
  | _ => none }
def RotationSquaresWrongFalsely : Prop := rotationSquaresRow.holds Try.pinned (OpenSpec.ofChange rotationSquaresWrong)

/-- 'salchowlaw36.RotationOnce': WHATEVER THE INPUT: true; the input reads as it did. -/
def rotationOnceSpec : ChangeSpec := { name := "rotationOnce", fn := fun _ => fun
  | [d1, d2, d3, d4] => { results := [.lit (.bool true)], args := [d1, d2, d3, d4] }
  | _ => none }
def rotationOnceRow : OpenClaim := { program := "ytaodpgblleiiaaa", sum := "364add18cb62cd29b84fdca0685b0597036fa6ff8cac85ee1fbde843e36925da", func := "salchow/salchowlaw36.RotationOnce", spec := "rotationOnce", unfollowed := true, recurses := true, apart := false }
def RotationOnceSaid : Prop := rotationOnceRow.holds Try.pinned (OpenSpec.ofChange rotationOnceSpec)

/-- ITS FALSE NEIGHBOUR: 'it returns false'. Refute it at one input. -/
def rotationOnceWrong : ChangeSpec := { name := "rotationOnce", fn := fun _ => fun
  | [d1, d2, d3, d4] => { results := [.lit (.bool false)], args := [d1, d2, d3, d4] }
  | _ => none }
def RotationOnceWrongFalsely : Prop := rotationOnceRow.holds Try.pinned (OpenSpec.ofChange rotationOnceWrong)

/-- 'salchowlaw36.RotationOrders': WHATEVER THE INPUT: true; the input reads as it did. -/
def rotationOrdersSpec : ChangeSpec := { name := "rotationOrders", fn := fun _ => fun
  | [d1, d2] => { results := [.lit (.bool true)], args := [d1, d2] }
  | _ => none }
def rotationOrdersRow : OpenClaim := { program := "ytaodpgblleiiaaa", sum := "364add18cb62cd29b84fdca0685b0597036fa6ff8cac85ee1fbde843e36925da", func := "salchow/salchowlaw36.RotationOrders", spec := "rotationOrders", unfollowed := true, recurses := true, apart := false }
def RotationOrdersSaid : Prop := rotationOrdersRow.holds Try.pinned (OpenSpec.ofChange rotationOrdersSpec)

/-- ITS FALSE NEIGHBOUR: 'it returns false'. Refute it at one input. -/
def rotationOrdersWrong : ChangeSpec := { name := "rotationOrders", fn := fun _ => fun
  | [d1, d2] => { results := [.lit (.bool false)], args := [d1, d2] }
  | _ => none }
def RotationOrdersWrongFalsely : Prop := rotationOrdersRow.holds Try.pinned (OpenSpec.ofChange rotationOrdersWrong)

/-- 'salchowlaw36.RotationPositions': WHATEVER THE INPUT: true; the input reads as it did. -/
def rotationPositionsSpec : ChangeSpec := { name := "rotationPositions", fn := fun _ => fun
  | [d] => { results := [.lit (.bool true)], args := [d] }
  | _ => none }
def rotationPositionsRow : OpenClaim := { program := "ytaodpgblleiiaaa", sum := "364add18cb62cd29b84fdca0685b0597036fa6ff8cac85ee1fbde843e36925da", func := "salchow/salchowlaw36.RotationPositions", spec := "rotationPositions", unfollowed := true, recurses := true, apart := false }
def RotationPositionsSaid : Prop := rotationPositionsRow.holds Try.pinned (OpenSpec.ofChange rotationPositionsSpec)

/-- ITS FALSE NEIGHBOUR: 'it returns false'. Refute it at one input. -/
def rotationPositionsWrong : ChangeSpec := { name := "rotationPositions", fn := fun _ => fun
  | [d] => { results := [.lit (.bool false)], args := [d] }
  | _ => none }
def RotationPositionsWrongFalsely : Prop := rotationPositionsRow.holds Try.pinned (OpenSpec.ofChange rotationPositionsWrong)

/-- 'salchowlaw36.RotationTimes': WHATEVER THE INPUT: true; the input reads as it did. -/
def rotationTimesSpec : ChangeSpec := { name := "rotationTimes", fn := fun _ => fun
  | [d1, d2, d3, d4] => { results := [.lit (.bool true)], args := [d1, d2, d3, d4] }
  | _ => none }
def rotationTimesRow : OpenClaim := { program := "ytaodpgblleiiaaa", sum := "364add18cb62cd29b84fdca0685b0597036fa6ff8cac85ee1fbde843e36925da", func := "salchow/salchowlaw36.RotationTimes", spec := "rotationTimes", unfollowed := true, recurses := true, apart := false }
def RotationTimesSaid : Prop := rotationTimesRow.holds Try.pinned (OpenSpec.ofChange rotationTimesSpec)

/-- ITS FALSE NEIGHBOUR: 'it returns false'. Refute it at one input. -/
def rotationTimesWrong : ChangeSpec := { name := "rotationTimes", fn := fun _ => fun
  | [d1, d2, d3, d4] => { results := [.lit (.bool false)], args := [d1, d2, d3, d4] }
  | _ => none }
def RotationTimesWrongFalsely : Prop := rotationTimesRow.holds Try.pinned (OpenSpec.ofChange rotationTimesWrong)

/-- 'salchowlaw36.RotationLatin': WHATEVER THE INPUT: true; the input reads as it did. -/
def rotationLatinSpec : ChangeSpec := { name := "rotationLatin", fn := fun _ => fun
  | [d] => { results := [.lit (.bool true)], args := [d] }
  | _ => none }
def rotationLatinRow : OpenClaim := { program := "ytaodpgblleiiaaa", sum := "364add18cb62cd29b84fdca0685b0597036fa6ff8cac85ee1fbde843e36925da", func := "salchow/salchowlaw36.RotationLatin", spec := "rotationLatin", unfollowed := true, recurses := true, apart := false }
def RotationLatinSaid : Prop := rotationLatinRow.holds Try.pinned (OpenSpec.ofChange rotationLatinSpec)

/-- ITS FALSE NEIGHBOUR: 'it returns false'. Refute it at one input. -/
def rotationLatinWrong : ChangeSpec := { name := "rotationLatin", fn := fun _ => fun
  | [d] => { results := [.lit (.bool false)], args := [d] }
  | _ => none }
def RotationLatinWrongFalsely : Prop := rotationLatinRow.holds Try.pinned (OpenSpec.ofChange rotationLatinWrong)

/-- 'salchowlaw36.RotationBalance': WHATEVER THE INPUT: true; the input reads as it did. -/
def rotationBalanceSpec : ChangeSpec := { name := "rotationBalance", fn := fun _ => fun
  | [d1, d2, d3] => { results := [.lit (.bool true)], args := [d1, d2, d3] }
  | _ => none }
def rotationBalanceRow : OpenClaim := { program := "ytaodpgblleiiaaa", sum := "364add18cb62cd29b84fdca0685b0597036fa6ff8cac85ee1fbde843e36925da", func := "salchow/salchowlaw36.RotationBalance", spec := "rotationBalance", unfollowed := true, recurses := true, apart := false }
def RotationBalanceSaid : Prop := rotationBalanceRow.holds Try.pinned (OpenSpec.ofChange rotationBalanceSpec)

/-- ITS FALSE NEIGHBOUR: 'it returns false'. Refute it at one input. -/
def rotationBalanceWrong : ChangeSpec := { name := "rotationBalance", fn := fun _ => fun
  | [d1, d2, d3] => { results := [.lit (.bool false)], args := [d1, d2, d3] }
  | _ => none }
def RotationBalanceWrongFalsely : Prop := rotationBalanceRow.holds Try.pinned (OpenSpec.ofChange rotationBalanceWrong)

/-- 'salchowlaw36.RotationLeaves': WHATEVER THE INPUT: true; the input reads as it did. -/
def rotationLeavesSpec : ChangeSpec := { name := "rotationLeaves", fn := fun _ => fun
  | [d] => { results := [.lit (.bool true)], args := [d] }
  | _ => none }
def rotationLeavesRow : OpenClaim := { program := "ytaodpgblleiiaaa", sum := "364add18cb62cd29b84fdca0685b0597036fa6ff8cac85ee1fbde843e36925da", func := "salchow/salchowlaw36.RotationLeaves", spec := "rotationLeaves", unfollowed := true, recurses := true, apart := false }
def RotationLeavesSaid : Prop := rotationLeavesRow.holds Try.pinned (OpenSpec.ofChange rotationLeavesSpec)

/-- ITS FALSE NEIGHBOUR: 'it returns false'. Refute it at one input. -/
def rotationLeavesWrong : ChangeSpec := { name := "rotationLeaves", fn := fun _ => fun
  | [d] => { results := [.lit (.bool false)], args := [d] }
  | _ => none }
def RotationLeavesWrongFalsely : Prop := rotationLeavesRow.holds Try.pinned (OpenSpec.ofChange rotationLeavesWrong)

/-- 'salchowlaw36.RotationShortest': WHATEVER THE INPUT: true; the input reads as it did. -/
def rotationShortestSpec : ChangeSpec := { name := "rotationShortest", fn := fun _ => fun
  | [d1, d2, d3] => { results := [.lit (.bool true)], args := [d1, d2, d3] }
  | _ => none }
def rotationShortestRow : OpenClaim := { program := "ytaodpgblleiiaaa", sum := "364add18cb62cd29b84fdca0685b0597036fa6ff8cac85ee1fbde843e36925da", func := "salchow/salchowlaw36.RotationShortest", spec := "rotationShortest", unfollowed := true, recurses := true, apart := false }
def RotationShortestSaid : Prop := rotationShortestRow.holds Try.pinned (OpenSpec.ofChange rotationShortestSpec)

/-- ITS FALSE NEIGHBOUR: 'it returns false'. Refute it at one input. -/
def rotationShortestWrong : ChangeSpec := { name := "rotationShortest", fn := fun _ => fun
  | [d1, d2, d3] => { results := [.lit (.bool false)], args := [d1, d2, d3] }
  | _ => none }
def RotationShortestWrongFalsely : Prop := rotationShortestRow.holds Try.pinned (OpenSpec.ofChange rotationShortestWrong)

/-- 'salchowlaw36.RotationBest': WHATEVER THE INPUT: true; the input reads as it did. -/
def rotationBestSpec : ChangeSpec := { name := "rotationBest", fn := fun _ => fun
  | [d1, d2, d3, d4] => { results := [.lit (.bool true)], args := [d1, d2, d3, d4] }
  | _ => none }
def rotationBestRow : OpenClaim := { program := "ytaodpgblleiiaaa", sum := "364add18cb62cd29b84fdca0685b0597036fa6ff8cac85ee1fbde843e36925da", func := "salchow/salchowlaw36.RotationBest", spec := "rotationBest", unfollowed := true, recurses := true, apart := false }
def RotationBestSaid : Prop := rotationBestRow.holds Try.pinned (OpenSpec.ofChange rotationBestSpec)

/-- ITS FALSE NEIGHBOUR: 'it returns false'. Refute it at one input. -/
def rotationBestWrong : ChangeSpec := { name := "rotationBest", fn := fun _ => fun
  | [d1, d2, d3, d4] => { results := [.lit (.bool false)], args := [d1, d2, d3, d4] }
  | _ => none }
def RotationBestWrongFalsely : Prop := rotationBestRow.holds Try.pinned (OpenSpec.ofChange rotationBestWrong)

/- THE SECOND FORM. 'bulk': how many values and letters a reading holds, each counted each time it is reached (what is shared counts as often as it is met; a slice's spare places count too). A statement '..UptoSaid' is the law's where the arguments, and the package variables that the reading takes, are together of bulk at most 1048576: NARROWER than '..Said'. Prove '..Said' where nothing that the law and all that it calls make is longer than what came in: it says more and counts as full. Else prove '..UptoSaid'. A law counts once. -/
mutual
def uptoBulk {H : Type} : DataW H → Nat
  | .lit (.string bytes) => bytes.length + 1
  | .lit _ => 1
  | .nil => 1
  | .ptr d => uptoBulk d + 1
  | .slice elems spare => uptoBulkAll elems + uptoBulkAll spare + 1
  | .agg parts => uptoBulkAll parts + 1
  | .iface _ d => uptoBulk d + 1
  | .map entries => uptoBulkEntries entries + 1
  | .held _ => 1
def uptoBulkAll {H : Type} : List (DataW H) → Nat
  | [] => 0
  | d :: r => uptoBulk d + uptoBulkAll r
def uptoBulkEntries {H : Type} : List (Lit × DataW H) → Nat
  | [] => 0
  | x :: r => uptoBulkEntry x + uptoBulkEntries r
def uptoBulkEntry {H : Type} : Lit × DataW H → Nat
  | (.string bytes, d) => bytes.length + uptoBulk d + 1
  | (_, d) => uptoBulk d + 1
 end
def uptoSmall : (H : Type) → List (DataW H) → Bool := fun _ ds => decide (uptoBulkAll ds ≤ 1048576)
def OpenSpec.upto (s : _root_.Go.ChangeSpec) : _root_.Go.OpenSpec := { _root_.Go.OpenSpec.ofChange s with cond := some uptoSmall }

/-- 'salchowlaw36.RotationSquares', WHERE WHAT IT READS IS OF BULK AT MOST 1048576: true; the input reads as it did. -/
def rotationSquaresUptoRow : OpenClaim := { program := "ytaodpgblleiiaaa", sum := "364add18cb62cd29b84fdca0685b0597036fa6ff8cac85ee1fbde843e36925da", func := "salchow/salchowlaw36.RotationSquares", spec := "rotationSquares", unfollowed := true, recurses := true, apart := false, narrowed := true }
def RotationSquaresUptoSaid : Prop := rotationSquaresUptoRow.holds Try.pinned (OpenSpec.upto rotationSquaresSpec)

/-- 'salchowlaw36.RotationOnce', WHERE WHAT IT READS IS OF BULK AT MOST 1048576: true; the input reads as it did. -/
def rotationOnceUptoRow : OpenClaim := { program := "ytaodpgblleiiaaa", sum := "364add18cb62cd29b84fdca0685b0597036fa6ff8cac85ee1fbde843e36925da", func := "salchow/salchowlaw36.RotationOnce", spec := "rotationOnce", unfollowed := true, recurses := true, apart := false, narrowed := true }
def RotationOnceUptoSaid : Prop := rotationOnceUptoRow.holds Try.pinned (OpenSpec.upto rotationOnceSpec)

/-- 'salchowlaw36.RotationOrders', WHERE WHAT IT READS IS OF BULK AT MOST 1048576: true; the input reads as it did. -/
def rotationOrdersUptoRow : OpenClaim := { program := "ytaodpgblleiiaaa", sum := "364add18cb62cd29b84fdca0685b0597036fa6ff8cac85ee1fbde843e36925da", func := "salchow/salchowlaw36.RotationOrders", spec := "rotationOrders", unfollowed := true, recurses := true, apart := false, narrowed := true }
def RotationOrdersUptoSaid : Prop := rotationOrdersUptoRow.holds Try.pinned (OpenSpec.upto rotationOrdersSpec)

/-- 'salchowlaw36.RotationPositions', WHERE WHAT IT READS IS OF BULK AT MOST 1048576: true; the input reads as it did. -/
def rotationPositionsUptoRow : OpenClaim := { program := "ytaodpgblleiiaaa", sum := "364add18cb62cd29b84fdca0685b0597036fa6ff8cac85ee1fbde843e36925da", func := "salchow/salchowlaw36.RotationPositions", spec := "rotationPositions", unfollowed := true, recurses := true, apart := false, narrowed := true }
def RotationPositionsUptoSaid : Prop := rotationPositionsUptoRow.holds Try.pinned (OpenSpec.upto rotationPositionsSpec)

/-- 'salchowlaw36.RotationTimes', WHERE WHAT IT READS IS OF BULK AT MOST 1048576: true; the input reads as it did. -/
def rotationTimesUptoRow : OpenClaim := { program := "ytaodpgblleiiaaa", sum := "364add18cb62cd29b84fdca0685b0597036fa6ff8cac85ee1fbde843e36925da", func := "salchow/salchowlaw36.RotationTimes", spec := "rotationTimes", unfollowed := true, recurses := true, apart := false, narrowed := true }
def RotationTimesUptoSaid : Prop := rotationTimesUptoRow.holds Try.pinned (OpenSpec.upto rotationTimesSpec)

/-- 'salchowlaw36.RotationLatin', WHERE WHAT IT READS IS OF BULK AT MOST 1048576: true; the input reads as it did. -/
def rotationLatinUptoRow : OpenClaim := { program := "ytaodpgblleiiaaa", sum := "364add18cb62cd29b84fdca0685b0597036fa6ff8cac85ee1fbde843e36925da", func := "salchow/salchowlaw36.RotationLatin", spec := "rotationLatin", unfollowed := true, recurses := true, apart := false, narrowed := true }
def RotationLatinUptoSaid : Prop := rotationLatinUptoRow.holds Try.pinned (OpenSpec.upto rotationLatinSpec)

/-- 'salchowlaw36.RotationBalance', WHERE WHAT IT READS IS OF BULK AT MOST 1048576: true; the input reads as it did. -/
def rotationBalanceUptoRow : OpenClaim := { program := "ytaodpgblleiiaaa", sum := "364add18cb62cd29b84fdca0685b0597036fa6ff8cac85ee1fbde843e36925da", func := "salchow/salchowlaw36.RotationBalance", spec := "rotationBalance", unfollowed := true, recurses := true, apart := false, narrowed := true }
def RotationBalanceUptoSaid : Prop := rotationBalanceUptoRow.holds Try.pinned (OpenSpec.upto rotationBalanceSpec)

/-- 'salchowlaw36.RotationLeaves', WHERE WHAT IT READS IS OF BULK AT MOST 1048576: true; the input reads as it did. -/
def rotationLeavesUptoRow : OpenClaim := { program := "ytaodpgblleiiaaa", sum := "364add18cb62cd29b84fdca0685b0597036fa6ff8cac85ee1fbde843e36925da", func := "salchow/salchowlaw36.RotationLeaves", spec := "rotationLeaves", unfollowed := true, recurses := true, apart := false, narrowed := true }
def RotationLeavesUptoSaid : Prop := rotationLeavesUptoRow.holds Try.pinned (OpenSpec.upto rotationLeavesSpec)

/-- 'salchowlaw36.RotationShortest', WHERE WHAT IT READS IS OF BULK AT MOST 1048576: true; the input reads as it did. -/
def rotationShortestUptoRow : OpenClaim := { program := "ytaodpgblleiiaaa", sum := "364add18cb62cd29b84fdca0685b0597036fa6ff8cac85ee1fbde843e36925da", func := "salchow/salchowlaw36.RotationShortest", spec := "rotationShortest", unfollowed := true, recurses := true, apart := false, narrowed := true }
def RotationShortestUptoSaid : Prop := rotationShortestUptoRow.holds Try.pinned (OpenSpec.upto rotationShortestSpec)

/-- 'salchowlaw36.RotationBest', WHERE WHAT IT READS IS OF BULK AT MOST 1048576: true; the input reads as it did. -/
def rotationBestUptoRow : OpenClaim := { program := "ytaodpgblleiiaaa", sum := "364add18cb62cd29b84fdca0685b0597036fa6ff8cac85ee1fbde843e36925da", func := "salchow/salchowlaw36.RotationBest", spec := "rotationBest", unfollowed := true, recurses := true, apart := false, narrowed := true }
def RotationBestUptoSaid : Prop := rotationBestUptoRow.holds Try.pinned (OpenSpec.upto rotationBestSpec)

end Rows
end Go.Proofs.Ytaodpgblleiiaaa
