/- The law PreferenceExposure, over numbers and lists alone: for all arguments in their kinds' ranges the printed law answers true. -/
import Derived.Test.YthljfcojmheopaaExpoRef
import Derived.Test.YthljfcojmheopaaAwake26
import Derived.Test.YthljfcojmheopaaTypesPreferenceExposure
namespace Go.Proofs.Ythljfcojmheopaa.Pure
open Go.RowKit Go.Proofs.YthljfcojmheopaaW.PrintWords Go.Proofs.Ythljfcojmheopaa.PAll Go.Proofs.Ythljfcojmheopaa.Types Go.Proofs.Ythljfcojmheopaa.LRows Go.Proofs.Ythljfcojmheopaa.Expo

theorem both (l : List S30) (hl : l.length ≤ maxLen) (x1 x2 x3 x4 : Int) : ∃ r, Ev (fun k => preference_Exposure.f k l x1 x2 x3 x4) r ∧ Ev (fun k => insolvencyref25_Exposure.f k l x1 x2 x3 x4) r :=
  ⟨_, expo x1 x2 x3 x4 l hl, ref_expo x1 x2 x3 x4 l hl⟩

theorem j0_true (l : List S30) (l1 : List S47) (a2 a3 a4 a5 : Int) : Ev (fun k => insolvencylaw26_PreferenceExposure.j0 k l l1 a2 a3 a4 a5 true) true := by
  refine Ev.step (fun k => by simp only [insolvencylaw26_PreferenceExposure.j0]; rfl) ?_
  simp only [if_true]
  exact Ev.bind awake_true (Ev.now _)
theorem j0_false (l : List S30) (l1 : List S47) (a2 a3 a4 a5 : Int) (hl : ok22 l) (hl1 : ok23 l1) : Ev (fun k => insolvencylaw26_PreferenceExposure.j0 k l l1 a2 a3 a4 a5 false) true := by
  refine Ev.step (fun k => by simp only [insolvencylaw26_PreferenceExposure.j0]; rfl) ?_
  simp only [Bool.false_eq_true, if_false]
  obtain ⟨r, day, hr, hb⟩ := rows_built 3 20 (by decide) (by decide) (by decide) l1 hl1
  have hlen := hb.len
  obtain ⟨e, he1, he2⟩ := both r (by unfold maxLen; omega) (wrap64 (Int.tmod a2 4)) (wrap64 (Int.tmod a3 4)) (wrap64 (Int.tmod a4 60)) (wrap64 (Int.tmod a5 60))
  obtain ⟨f, hf1, hf2⟩ := both l hl.1 (wrap64 (Int.tmod a2 4)) (wrap64 (Int.tmod a3 4)) (wrap64 (Int.tmod a4 60)) (wrap64 (Int.tmod a5 60))
  refine Ev.bind hr (Ev.bind awake_true ?_)
  simp only [if_true]
  refine Ev.bind he1 (Ev.bind he2 ?_)
  simp only [if_true]
  refine Ev.bind hf1 (Ev.bind hf2 ?_)
  simp only [beq_self_eq_true]
  exact Ev.now _

theorem PreferenceExposure : TPreferenceExposure.Pure := by
  intro l l1 a2 a3 a4 a5 hl hl1 _ _ _ _
  refine Ev.rounds ?_
  unfold insolvencylaw26_PreferenceExposure.f
  by_cases h : (l.length : Int) > 12
  · simp only [h, if_true]
    exact j0_true l l1 a2 a3 a4 a5
  · simp only [h, if_false]
    by_cases h1 : (l1.length : Int) > 24
    · simp only [h1, decide_true]
      exact j0_true l l1 a2 a3 a4 a5
    · simp only [h1, decide_false]
      exact j0_false l l1 a2 a3 a4 a5 hl hl1
end Go.Proofs.Ythljfcojmheopaa.Pure
