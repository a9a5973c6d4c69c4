/- The statement of the law PreferenceSuffix over numbers and lists alone. -/
import Derived.Test.YthljfcojmheopaaPAllx5
import Derived.Test.YthljfcojmheopaaTypes
namespace Go.Proofs.Ythljfcojmheopaa.TPreferenceSuffix
open Go.RowKit Go.Proofs.YthljfcojmheopaaW.PrintWords Go.Proofs.Ythljfcojmheopaa.PAll Go.Proofs.Ythljfcojmheopaa.Types
def Pure : Prop := ∀ (a0 : List S47) (a1 : Int) (a2 : Int), ok23 a0 → ok5 a1 → ok5 a2 → ∃ k, insolvencylaw26_PreferenceSuffix.f k a0 a1 a2 = some true
end Go.Proofs.Ythljfcojmheopaa.TPreferenceSuffix
