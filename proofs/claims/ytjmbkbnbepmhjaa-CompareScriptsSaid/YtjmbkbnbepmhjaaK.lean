-- out of a program (drive.sh), by way of the translation's print
import Derived.Test.YtjmbkbnbepmhjaaPx0
import Derived.Test.YtjmbkbnbepmhjaaO
namespace Go.Proofs.Ytjmbkbnbepmhjaa.P
open Go.RowKit Go.Proofs.Ytjmbkbnbepmhjaa.Op Go.Proofs.YtjmbkbnbepmhjaaW.PrintWords Go.Proofs.YtjmbkbnbepmhjaaW.PrintLast
set_option linter.unusedVariables false
def ok9 (s : ByteArray) : Prop := s.size ≤ maxLen
theorem opens9 : Opens Try.prog 9 Kd.string ok9 := opens_string Try.underlying9
def ok3 (n : Int) : Prop := (Lit.int .i64 n).wf = true
theorem opens3 : Opens Try.prog 3 (Kd.int .i64) ok3 := opens_int Try.underlying3
def ok4 (_ : Bool) : Prop := True
theorem opens4 : Opens Try.prog 4 Kd.bool ok4 := opens_bool Try.underlying4
instance : Inhabited S50 := ⟨z50⟩
def ok50 (x : S50) : Prop := ok9 x.f0 ∧ ok3 x.f1 ∧ ok4 x.f2 ∧ ok4 x.f3 ∧ ok4 x.f4
theorem opens50 : Opens Try.prog 50 k50 ok50 := opens_struct (fun x => (⟨x.1, x.2.1, x.2.2.1, x.2.2.2.1, x.2.2.2.2⟩ : S50)) (fun x : S50 => (x.f0, x.f1, x.f2, x.f3, x.f4)) (fun _ => rfl) Try.underlying50 (by kernel_rfl) (opensL_cons (by kernel_rfl) opens9 (opensL_cons (by kernel_rfl) opens3 (opensL_cons (by kernel_rfl) opens4 (opensL_cons (by kernel_rfl) opens4 (opensL_one (by kernel_rfl) opens4)))))
def ok22 (l : List (S50)) : Prop := okList ok50 l
theorem opens22 : Opens Try.prog 22 (Kd.slice 50 k50) ok22 := opens_slice Try.underlying22 (by kernel_rfl) opens50
end Go.Proofs.Ytjmbkbnbepmhjaa.P
