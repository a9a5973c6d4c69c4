/- The statement of the law UndervalueDeficit over numbers and lists alone. -/
import Derived.Test.YtljenpakncmlkaaPAllx11
import Derived.Test.YtljenpakncmlkaaTypes
namespace Go.Proofs.Ytljenpakncmlkaa.TUndervalueDeficit
open Go.RowKit Go.Proofs.YtljenpakncmlkaaW.PrintWords Go.Proofs.Ytljenpakncmlkaa.PAll Go.Proofs.Ytljenpakncmlkaa.Types
def Pure : Prop := ∀ (a0 : S36) (a1 : Int) (a2 : Int) (a3 : Int), ok36 a0 → ok40 a1 → ok40 a2 → ok5 a3 → ∃ k, insolvencylaw27_UndervalueDeficit.f k a0.f0 a0.f1 a0.f2 a0.f3 a0.f4 a0.f5 a1 a2 a3 = some true
end Go.Proofs.Ytljenpakncmlkaa.TUndervalueDeficit
