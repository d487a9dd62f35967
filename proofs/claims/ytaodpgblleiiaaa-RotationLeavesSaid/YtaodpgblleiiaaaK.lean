-- out of a program (drive.sh), by way of the translation's print
import Derived.Test.YtaodpgblleiiaaaPx0
import Derived.Test.YtaodpgblleiiaaaO
namespace Go.Proofs.Ytaodpgblleiiaaa.P
open Go.RowKit Go.Proofs.Ytaodpgblleiiaaa.Op Go.Proofs.YtaodpgblleiiaaaW.PrintWords Go.Proofs.YtaodpgblleiiaaaW.PrintLast
set_option linter.unusedVariables false
def ok3 (n : Int) : Prop := (Lit.int .i64 n).wf = true
theorem opens3 : Opens Try.prog 3 (Kd.int .i64) ok3 := opens_int Try.underlying3
def ok31 (l : List Int) : Prop := okList ok3 l
theorem opens31 : Opens Try.prog 31 (Kd.slice 3 (Kd.int .i64)) ok31 := opens_slice Try.underlying31 (by kernel_rfl) opens3
def ok23 (l : List (List Int)) : Prop := okList ok31 l
theorem opens23 : Opens Try.prog 23 (Kd.slice 31 (Kd.slice 3 (Kd.int .i64))) ok23 := opens_slice Try.underlying23 (by kernel_rfl) opens31
end Go.Proofs.Ytaodpgblleiiaaa.P
