/- The statement of the law PartySymmetric over numbers and lists alone. -/
import Derived.Test.YtjeamaahhpbbkaaDoorPAllx20
import Derived.Test.YtjeamaahhpbbkaaDoorTypes
namespace Go.Proofs.YtjeamaahhpbbkaaDoor.TPartySymmetric
open Go.RowKit Go.Proofs.YtjeamaahhpbbkaaDoorW.PrintWords Go.Proofs.YtjeamaahhpbbkaaDoor.PAll Go.Proofs.YtjeamaahhpbbkaaDoor.Types
def Pure : Prop := ∀ (a0 : Int) (a1 : Int) (a2 : List S65) (a3 : List S66), ok5 a0 → ok40 a1 → ok41 a2 → ok52 a3 → ∃ k, insolvencylaw8_PartySymmetric.f k a0 a1 a2 a3 = some true
end Go.Proofs.YtjeamaahhpbbkaaDoor.TPartySymmetric
