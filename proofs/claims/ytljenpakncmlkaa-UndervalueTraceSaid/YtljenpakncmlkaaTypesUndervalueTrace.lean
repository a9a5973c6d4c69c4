/- The statement of the law UndervalueTrace over numbers and lists alone. -/
import Derived.Test.YtljenpakncmlkaaPAllx9
import Derived.Test.YtljenpakncmlkaaTypes
namespace Go.Proofs.Ytljenpakncmlkaa.TUndervalueTrace
open Go.RowKit Go.Proofs.YtljenpakncmlkaaW.PrintWords Go.Proofs.Ytljenpakncmlkaa.PAll Go.Proofs.Ytljenpakncmlkaa.Types
def Pure : Prop := ∀ (a0 : List S43) (a1 : S23) (a2 : Int) (a3 : List S36) (a4 : List Int) (a5 : Int), ok22 a0 → ok23 a1 → ok5 a2 → ok24 a3 → ok25 a4 → ok3 a5 → ∃ k, insolvencylaw27_UndervalueTrace.f k a0 a1.f0 a1.f1 a1.f2 a1.f3 a2 a3 a4 a5 = some true
end Go.Proofs.Ytljenpakncmlkaa.TUndervalueTrace
