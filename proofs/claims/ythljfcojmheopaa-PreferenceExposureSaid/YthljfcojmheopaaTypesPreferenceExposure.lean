/- The statement of the law PreferenceExposure over numbers and lists alone. -/
import Derived.Test.YthljfcojmheopaaPAllx4
import Derived.Test.YthljfcojmheopaaTypes
namespace Go.Proofs.Ythljfcojmheopaa.TPreferenceExposure
open Go.RowKit Go.Proofs.YthljfcojmheopaaW.PrintWords Go.Proofs.Ythljfcojmheopaa.PAll Go.Proofs.Ythljfcojmheopaa.Types
def Pure : Prop := ∀ (a0 : List S30) (a1 : List S47) (a2 : Int) (a3 : Int) (a4 : Int) (a5 : Int), ok22 a0 → ok23 a1 → ok24 a2 → ok24 a3 → ok5 a4 → ok5 a5 → ∃ k, insolvencylaw26_PreferenceExposure.f k a0 a1 a2 a3 a4 a5 = some true
end Go.Proofs.Ythljfcojmheopaa.TPreferenceExposure
