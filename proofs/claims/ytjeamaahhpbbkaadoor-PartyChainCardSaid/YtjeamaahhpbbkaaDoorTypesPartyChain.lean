/- The statement of the law PartyChain over numbers and lists alone. -/
import Derived.Test.YtjeamaahhpbbkaaDoorPAllx17
import Derived.Test.YtjeamaahhpbbkaaDoorTypes
namespace Go.Proofs.YtjeamaahhpbbkaaDoor.TPartyChain
open Go.RowKit Go.Proofs.YtjeamaahhpbbkaaDoorW.PrintWords Go.Proofs.YtjeamaahhpbbkaaDoor.PAll Go.Proofs.YtjeamaahhpbbkaaDoor.Types
def Pure : Prop := ∀ (a0 : Int) (a1 : Int) (a2 : List S65), ok5 a0 → ok40 a1 → ok41 a2 → ∃ k, insolvencylaw8_PartyChain.f k a0 a1 a2 = some true
end Go.Proofs.YtjeamaahhpbbkaaDoor.TPartyChain
