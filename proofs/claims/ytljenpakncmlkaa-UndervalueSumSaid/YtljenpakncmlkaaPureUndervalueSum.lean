/- The law UndervalueSum, over numbers and lists alone: for all arguments in their kinds' ranges the printed law answers true. -/
import Derived.Test.YtljenpakncmlkaaTrHelp
import Derived.Test.YtljenpakncmlkaaTypesUndervalueSum
namespace Go.Proofs.Ytljenpakncmlkaa.Pure
open Go.RowKit Go.Proofs.YtljenpakncmlkaaW.PrintWords Go.Proofs.YtljenpakncmlkaaW.PrintMore Go.Proofs.Ytljenpakncmlkaa.PAll Go.Proofs.Ytljenpakncmlkaa.Types Go.Proofs.Ytljenpakncmlkaa.LRows Go.Proofs.Ytljenpakncmlkaa.TrEq Go.Proofs.Ytljenpakncmlkaa.Tr Go.Proofs.Ytljenpakncmlkaa.TrH

/-- The first i parts. -/
def SP (T : List Int) : Nat → Int
  | 0 => 0
  | i + 1 => SP T i + rd T (i : Int)
theorem sp_bd4 {C : Int} {s : List Int × Int} (h : PP C s) (i : Nat) (hi : i ≤ 4) : 0 ≤ SP s.1 i ∧ s.2 + SP s.1 i ≤ C := by
  have h0 := h.nn 0 (by omega)
  have h1 := h.nn 1 (by omega)
  have h2 := h.nn 2 (by omega)
  have h3 := h.nn 3 (by omega)
  have h4 := h.sum
  unfold S4 at h4
  rcases (by omega : i = 0 ∨ i = 1 ∨ i = 2 ∨ i = 3 ∨ i = 4) with rfl | rfl | rfl | rfl | rfl <;> simp only [SP] <;> omega
theorem sum_loop (r : List S36) (hf : TrH.Fine r) (p : Int) (hp : 0 ≤ p ∧ p < (r.length : Int)) (a : S23) (ha : ok23 a) (T : List Int) (L : Int) (h : PP (rd_T36 r p).f4 (T, L))
    (ht : ∀ q : Nat, q < 4 → rd T (q : Int) ≤ mx (balR r (q : Int) (rd (opnL a.f0 a.f1 a.f2 a.f3 4) (q : Int))) 0) (d : Nat) : ∀ (i : Nat), 4 - i = d → i ≤ 4 →
    Ev (fun k => insolvencylaw27_UndervalueSum.l0 k r p T (L + SP T i) (i : Int) a.f0 a.f1 a.f2 a.f3) true := by
  have hA := (hf.small _ (rdT_mem r p hp.1 hp.2)).2.2.1
  induction d with
  | zero =>
    intro i hd hi
    obtain rfl : i = 4 := by omega
    refine Ev.step (fun k => by simp only [insolvencylaw27_UndervalueSum.l0]; rfl) ?_
    have c1 : ¬ ((4 : Nat) : Int) < 4 := by omega
    simp only [c1, if_false]
    refine Ev.bind tr_awake ?_
    have e : L + SP T 4 = (rd_T36 r p).f4 := by
      have := h.sum
      unfold S4 at this
      simp only [SP] at this ⊢
      omega
    simp only [if_true, hp.1, hp.2, e, beq_self_eq_true]
    exact Ev.now _
  | succ d ih =>
    intro i hd hi
    have hlt : i < 4 := by omega
    have ih1 := ih (i + 1) (by omega) (by omega)
    refine Ev.step (fun k => by simp only [insolvencylaw27_UndervalueSum.l0]; rfl) ?_
    have c1 : ((i : Nat) : Int) < 4 := by omega
    have c0 : (0 : Int) ≤ ((i : Nat) : Int) := by omega
    simp only [c1, if_true]
    refine Ev.bind (tr_open a ha) ?_
    have c2 : ((i : Nat) : Int) < (((opnL a.f0 a.f1 a.f2 a.f3 4).length : Nat) : Int) := by rw [opn_len]; omega
    simp only [c0, c2, if_true]
    obtain ⟨o1, o2⟩ := opnL_bd a _ (rd_mem _ i (by rw [opn_len]; exact hlt))
    refine Ev.bind (bal_ev r (by have := hf.len; omega) hf.small (i : Int) _ (by omega) (by omega)) ?_
    have hl := h.len
    simp only at hl
    have c3 : ((i : Nat) : Int) < ((T.length : Nat) : Int) := by omega
    have n0 := h.nn i hlt
    simp only at n0
    have c4 : ¬ rd T ((i : Nat) : Int) < 0 := by omega
    have c5 : ¬ rd T ((i : Nat) : Int) > mx (balR r ((i : Nat) : Int) (rd (opnL a.f0 a.f1 a.f2 a.f3 4) ((i : Nat) : Int))) 0 := Int.not_lt.mpr (ht i hlt)
    have b1 := sp_bd4 h i hi
    have b2 := sp_bd4 h (i + 1) (by omega)
    have b3 := h.lo
    simp only [SP] at b1 b2 b3
    have e1 : wrap64 (L + SP T i + rd T ((i : Nat) : Int)) = L + SP T (i + 1) := by
      rw [wI64 _ ⟨by omega, by omega⟩]
      simp only [SP]
      omega
    have e2 : wrap64 (((i : Nat) : Int) + 1) = ((i + 1 : Nat) : Int) := next64 (n := 4) hlt (by unfold maxLen; omega)
    simp only [c3, if_true, c4, c5, if_false, e1, e2]
    exact ih1

theorem UndervalueSum : TUndervalueSum.Pure := by
  intro l0 a1 a2 h0 h1 h2
  refine Ev.rounds ?_
  unfold insolvencylaw27_UndervalueSum.f
  obtain ⟨r, day, hr, hb⟩ := rows_built 4 24 (by decide) (by decide) (by decide) l0 h0
  have hf := fine_of hb (Int.le_refl _)
  have hlen := hf.len
  obtain ⟨p, hp, hp2⟩ := tr_pay r (by omega) a2 (by unfold ok5 at h2; omega)
  have hor := opnL_bd a1
  refine Ev.bind hr (Ev.bind hp (Ev.bind (tr_open a1 h1) ?_))
  by_cases hn : r = []
  · subst hn
    refine Ev.bind (tr_ev _ _ _ (opn_len _ _ _ _) hf _ (ans_nil _ _ (opn_len _ _ _ _) hor)) ?_
    simp only [show ¬ ((1 : Int) = 0) by decide, if_false]
    refine Ev.bind tr_awake ?_
    simp only [if_true, List.length_nil]
    exact Ev.now _
  · obtain ⟨p0, p1⟩ := hp2 hn
    by_cases hk : (rd_T36 r p).f1 = 1
    · refine Ev.bind (tr_ev _ _ _ (opn_len _ _ _ _) hf _ (ans_good r hf _ p (opn_len _ _ _ _) hor ⟨p0, p1⟩ hk)) ?_
      have hin : ∀ x ∈ opnL a1.f0 a1.f1 a1.f2 a1.f3 4, inRange x := fun x hx => by have := hor x hx; unfold inRange; omega
      have hbal := fold_bal 4 (by decide) r (by omega) p hf.good hf.small hk _ (opn_len a1.f0 a1.f1 a1.f2 a1.f3) hin r.length (Nat.le_refl _)
      have hsum := fold_sum r (by omega) p p0 p1 hf.good hf.small hk _ (opn_len a1.f0 a1.f1 a1.f2 a1.f3) hin r.length (Nat.le_refl _)
      rw [if_pos p1] at hsum
      generalize foldF 4 p r (opnL a1.f0 a1.f1 a1.f2 a1.f3 4) r.length = F at *
      obtain ⟨B, T, L⟩ := F
      simp only at hbal hsum ⊢
      have hl := hsum.len
      have hlo := hsum.lo
      simp only at hl hlo
      have c1 : ((T.length : Nat) : Int) = 4 := by omega
      have c2 : ¬ L < 0 := by omega
      simp only [if_true, c1, c2, decide_false]
      refine Ev.step (fun k => by simp only [insolvencylaw27_UndervalueSum.j0]; rfl) ?_
      simp only [Bool.false_eq_true, if_false]
      have := sum_loop r hf p ⟨p0, p1⟩ a1 h1 T L hsum (fun q hq => by
        have e := hbal.2 q hq
        rw [List.take_length] at e
        rw [← e]
        exact (hbal.1.tr q hq).2) 4 0 rfl (by omega)
      simp only [SP, Int.add_zero] at this
      exact this
    · refine Ev.bind (tr_ev _ _ _ (opn_len _ _ _ _) hf _ (ans_other r hf _ p (opn_len _ _ _ _) hor ⟨p0, p1⟩ hk)) ?_
      simp only [show ¬ ((13 : Int) = 0) by decide, if_false]
      refine Ev.bind tr_awake ?_
      have c0 : ¬ ((r.length : Nat) : Int) = 0 := by omega
      have c1 : ((rd_T36 r p).f1 != 1) = true := bne_iff_ne.mpr hk
      simp only [if_true, c0, if_false, p0, p1, c1]
      exact Ev.now _
end Go.Proofs.Ytljenpakncmlkaa.Pure
