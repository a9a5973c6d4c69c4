/- The law UndervalueTrace, over numbers and lists alone: for all arguments in their kinds' ranges the printed law answers true. -/
import Derived.Test.YtljenpakncmlkaaTraceLen
import Derived.Test.YtljenpakncmlkaaLRows
import Derived.Test.YtljenpakncmlkaaTypesUndervalueTrace
namespace Go.Proofs.Ytljenpakncmlkaa.Pure
open Go.RowKit Go.Proofs.YtljenpakncmlkaaW.PrintWords Go.Proofs.YtljenpakncmlkaaW.PrintMore Go.Proofs.Ytljenpakncmlkaa.PAll Go.Proofs.Ytljenpakncmlkaa.Types Go.Proofs.Ytljenpakncmlkaa.LRows Go.Proofs.Ytljenpakncmlkaa.TrEq

theorem tr_awake : Ev (fun k => insolvencylaw27_awake.f k) true := ⟨260, fun k hk => awake_true k hk⟩
theorem opn_len (a b c d : Int) : (opnL a b c d 4).length = 4 := rfl
theorem tr_open (a : S23) (h : ok23 a) : Ev (fun k => insolvencylaw27_openings.f k a.f0 a.f1 a.f2 a.f3) (opnL a.f0 a.f1 a.f2 a.f3 4) := by
  obtain ⟨⟨a0, a1⟩, ⟨b0, b1⟩, ⟨c0, c1⟩, d0, d1⟩ := h
  exact ⟨0, fun k _ => by unfold insolvencylaw27_openings.f; rw [if_pos (by omega)]⟩
theorem tr_pay (l : List S36) (hl : l.length ≤ 1000) (x : Int) (hx : 0 ≤ x ∧ x < 256) : ∃ r, Ev (fun k => insolvencylaw27_payment.f k l x) r := by
  obtain ⟨r, hr⟩ := pay_loop l hl x hx l.length 0 0 rfl (Nat.zero_le _)
  refine ⟨r, Ev.of (fun k => insolvencylaw27_payment.mono _ _ k) (k := 0 + l.length + 1) ?_⟩
  unfold insolvencylaw27_payment.f
  exact hr
theorem tr_same (l0 : List S36) (l1 : List Int) (a2 : Int) (h1 : l1.length ≤ 1000000) (h0 : l0.length ≤ 1000000) : Ev (fun k => insolvencylaw27_same.f k l0 l1 a2) true := same_true l0 l1 a2 h1 h0

theorem tr0_true (l0 : List S43) (a2 : Int) (l3 : List S36) (l4 : List Int) (a5 b0 b1 b2 b3 : Int) : Ev (fun k => insolvencylaw27_UndervalueTrace.j0 k l0 a2 l3 l4 a5 true b0 b1 b2 b3) true := by
  refine Ev.step (fun k => by simp only [insolvencylaw27_UndervalueTrace.j0]; rfl) ?_
  simp only [if_true]
  exact Ev.bind tr_awake (Ev.now _)
theorem tr0_false (l0 : List S43) (a1 : S23) (a2 : Int) (l3 : List S36) (l4 : List Int) (a5 : Int) (h0 : ok22 l0) (h1 : ok23 a1) (h2 : ok5 a2) (h3 : l3.length ≤ 10) (h4 : l4.length ≤ 6) :
    Ev (fun k => insolvencylaw27_UndervalueTrace.j0 k l0 a2 l3 l4 a5 false a1.f0 a1.f1 a1.f2 a1.f3) true := by
  refine Ev.step (fun k => by simp only [insolvencylaw27_UndervalueTrace.j0]; rfl) ?_
  simp only [Bool.false_eq_true, if_false]
  obtain ⟨r, day, hr, hb⟩ := rows_built 4 24 (by decide) (by decide) (by decide) l0 h0
  have hlen := hb.len
  obtain ⟨p, hp⟩ := tr_pay r (by omega) a2 (by unfold ok5 at h2; omega)
  refine Ev.bind hr (Ev.bind tr_awake ?_)
  simp only [if_true]
  refine Ev.bind (tr_open a1 h1) (Ev.bind hp (Ev.bind (tr_same r _ _ (by rw [opn_len]; omega) (by omega)) ?_))
  simp only [if_true]
  refine Ev.bind (tr_open a1 h1) (Ev.bind (tr_same r _ _ (by rw [opn_len]; omega) (by omega)) ?_)
  simp only [if_true]
  exact Ev.bind (tr_same l3 l4 a5 (by omega) (by omega)) (Ev.now _)

theorem UndervalueTrace : TUndervalueTrace.Pure := by
  intro l0 a1 a2 l3 l4 a5 h0 h1 h2 _ _ _
  refine Ev.rounds ?_
  unfold insolvencylaw27_UndervalueTrace.f
  by_cases h : (l3.length : Int) > 10
  · simp only [h, if_true]
    exact tr0_true l0 a2 l3 l4 a5 _ _ _ _
  · simp only [h, if_false]
    by_cases h' : (l4.length : Int) > 6
    · simp only [h', decide_true]
      exact tr0_true l0 a2 l3 l4 a5 _ _ _ _
    · simp only [h', decide_false]
      exact tr0_false l0 a1 a2 l3 l4 a5 h0 h1 h2 (by omega) (by omega)
end Go.Proofs.Ytljenpakncmlkaa.Pure
