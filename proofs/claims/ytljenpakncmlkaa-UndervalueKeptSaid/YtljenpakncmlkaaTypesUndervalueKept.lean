/- The statement of the law UndervalueKept over numbers and lists alone. -/
import Derived.Test.YtljenpakncmlkaaPAllx11
import Derived.Test.YtljenpakncmlkaaTypes
namespace Go.Proofs.Ytljenpakncmlkaa.TUndervalueKept
open Go.RowKit Go.Proofs.YtljenpakncmlkaaW.PrintWords Go.Proofs.Ytljenpakncmlkaa.PAll Go.Proofs.Ytljenpakncmlkaa.Types
def Pure : Prop := ∀ (a0 : List S43) (a1 : S23) (a2 : Int), ok22 a0 → ok23 a1 → ok5 a2 → ∃ k, insolvencylaw27_UndervalueKept.f k a0 a1.f0 a1.f1 a1.f2 a1.f3 a2 = some true
end Go.Proofs.Ytljenpakncmlkaa.TUndervalueKept
