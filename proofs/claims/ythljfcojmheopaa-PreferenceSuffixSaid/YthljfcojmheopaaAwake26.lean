/- The sanity check of the laws of layer 26 answers true. -/
import Derived.Test.YthljfcojmheopaaExpo
import Derived.Test.YthljfcojmheopaaPAllx1
namespace Go.Proofs.Ythljfcojmheopaa.Expo
open Go.RowKit Go.Proofs.YthljfcojmheopaaW.PrintWords Go.Proofs.YthljfcojmheopaaW.PrintMore Go.Proofs.Ythljfcojmheopaa.PAll Go.Proofs.Ythljfcojmheopaa.Types Go.Proofs.Ythljfcojmheopaa.LRows
theorem awake_true : Ev (fun k => insolvencylaw26_awake.f k) true := by
  unfold insolvencylaw26_awake.f
  refine Ev.bind (expo 0 1 0 0 _ (by unfold maxLen; decide)) ?_
  exact ⟨0, fun k _ => by simp [expStep, mx, wrap64]⟩
end Go.Proofs.Ythljfcojmheopaa.Expo
