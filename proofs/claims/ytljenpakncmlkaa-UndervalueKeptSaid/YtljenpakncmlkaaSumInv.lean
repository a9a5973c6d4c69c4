/- The tracer loses no money from sight: traced parts and what is lost sum up to the payment. -/
import Derived.Test.YtljenpakncmlkaaSumBal
namespace Go.Proofs.Ytljenpakncmlkaa.TrEq
open Go.RowKit Go.Proofs.YtljenpakncmlkaaW.PrintWords Go.Proofs.YtljenpakncmlkaaW.PrintMore Go.Proofs.Ytljenpakncmlkaa.PAll Go.Proofs.Ytljenpakncmlkaa.LRows Go.Proofs.Ytljenpakncmlkaa.Tr Go.Proofs.Ytljenpakncmlkaa.Hist

def S4 (T : List Int) : Int := rd T ((0 : Nat) : Int) + rd T ((1 : Nat) : Int) + rd T ((2 : Nat) : Int) + rd T ((3 : Nat) : Int)
theorem S4_set (T : List Int) (h : T.length = 4) (p : Nat) (hp : p < 4) (x : Int) : S4 (T.set p x) = S4 T - rd T (p : Int) + x := by
  unfold S4
  rcases (by omega : p = 0 ∨ p = 1 ∨ p = 2 ∨ p = 3) with rfl | rfl | rfl | rfl
  · rw [rd_set_same _ _ _ (by omega), rd_set_other _ _ _ _ (by decide), rd_set_other _ _ _ _ (by decide), rd_set_other _ _ _ _ (by decide)]; omega
  · rw [rd_set_same _ _ _ (by omega), rd_set_other _ _ _ _ (by decide), rd_set_other _ _ _ _ (by decide), rd_set_other _ _ _ _ (by decide)]; omega
  · rw [rd_set_same _ _ _ (by omega), rd_set_other _ _ _ _ (by decide), rd_set_other _ _ _ _ (by decide), rd_set_other _ _ _ _ (by decide)]; omega
  · rw [rd_set_same _ _ _ (by omega), rd_set_other _ _ _ _ (by decide), rd_set_other _ _ _ _ (by decide), rd_set_other _ _ _ _ (by decide)]; omega
/-- Traced parts and what is lost: nothing below 0, and their sum. -/
structure PP (C : Int) (s : List Int × Int) : Prop where
  len : s.1.length = 4
  nn : ∀ p : Nat, p < 4 → 0 ≤ rd s.1 (p : Int)
  lo : 0 ≤ s.2
  sum : S4 s.1 + s.2 = C
theorem PP.le {C : Int} {s : List Int × Int} (h : PP C s) (p : Nat) (hp : p < 4) : rd s.1 (p : Int) + s.2 ≤ C := by
  have h0 := h.nn 0 (by omega)
  have h1 := h.nn 1 (by omega)
  have h2 := h.nn 2 (by omega)
  have h3 := h.nn 3 (by omega)
  have h4 := h.sum
  unfold S4 at h4
  rcases (by omega : p = 0 ∨ p = 1 ∨ p = 2 ∨ p = 3) with rfl | rfl | rfl | rfl <;> omega
theorem PP.set {C x y : Int} {s : List Int × Int} (h : PP C s) (p : Nat) (hp : p < 4) (hx : 0 ≤ x) (hy : 0 ≤ y) (e : x + y = rd s.1 (p : Int) + s.2) : PP C (s.1.set p x, y) := by
  have hl := h.len
  refine ⟨by rw [List.length_set]; exact hl, fun m hm => ?_, hy, ?_⟩
  · by_cases c : p = m
    · subst c
      show 0 ≤ rd (s.1.set p x) (p : Int)
      rw [rd_set_same _ _ _ (by omega)]; exact hx
    · show 0 ≤ rd (s.1.set p x) (m : Int)
      rw [rd_set_other _ _ _ _ c]; exact h.nn m hm
  · show S4 (s.1.set p x) + y = C
    rw [S4_set _ hl p hp]
    have := h.sum
    omega
theorem clip_sum (C : Int) (hC : C ≤ 1000000) (B T : List Int) (L : Int) (h : PP C (T, L)) (m : Nat) (hm : m ≤ 4) : PP C (clipF B T L m) := by
  induction m with
  | zero => exact h
  | succ m ih =>
    have i1 := ih (by omega)
    rw [clipF_succ]
    generalize clipF B T L m = s at *
    unfold clipStep
    split
    · rename_i hc
      have h1 := i1.le m (by omega)
      have h2 := i1.lo
      have h3 := i1.nn m (by omega)
      have h4 := mx0 (rd B (m : Int))
      generalize mx (rd B (m : Int)) 0 = y at *
      have e1 : wrap64 (rd s.1 (m : Int) - y) = rd s.1 (m : Int) - y := wI64 _ ⟨by omega, by omega⟩
      have e2 : wrap64 (s.2 + (rd s.1 (m : Int) - y)) = s.2 + (rd s.1 (m : Int) - y) := wI64 _ ⟨by omega, by omega⟩
      rw [e1, e2]
      clear e1 e2
      exact i1.set m (by omega) h4 (by omega) (by omega)
    · exact i1
theorem sp_sum (C : Int) (hC : C ≤ 1000000) (one : Bool) (p q f4 : Int) (B T : List Int) (L : Int) (p0 : 0 ≤ p) (p1 : p < 4) (q0 : 0 ≤ q) (q1 : q < 4) (hpq : p ≠ q) (h : PP C (T, L)) : PP C (rSp one p q f4 B T L) := by
  obtain ⟨p, rfl⟩ := Int.eq_ofNat_of_zero_le p0
  obtain ⟨q, rfl⟩ := Int.eq_ofNat_of_zero_le q0
  have hp' : p < 4 := by omega
  have hq' : q < 4 := by omega
  have hne : p ≠ q := by omega
  have b0 := h.nn p hp'
  have b1 := h.le p hp'
  have c0 := h.nn q hq'
  have c1 := h.le q hq'
  have d0 := h.lo
  simp only at b0 b1 c0 c1 d0
  obtain ⟨t0, t1⟩ := tk_bd (p : Int) f4 B T b0
  unfold rSp
  rw [Int.toNat_natCast, Int.toNat_natCast, rd_set_other T p q _ hne]
  generalize tk (p : Int) f4 B T = t at *
  have hl := h.len
  simp only at hl
  have e1 : wrap64 (rd T (p : Int) - t) = rd T (p : Int) - t := wI64 _ ⟨by omega, by omega⟩
  have e2 : wrap64 (rd T (q : Int) + t) = rd T (q : Int) + t := wI64 _ ⟨by omega, by omega⟩
  have e3 : wrap64 (L + t) = L + t := wI64 _ ⟨by omega, by omega⟩
  rw [e1, e2, e3]
  clear e1 e2 e3
  cases one with
  | true =>
    rw [if_pos rfl]
    have h1 : PP (C - t) (T.set p (rd T (p : Int) - t), L) := by
      refine ⟨by rw [List.length_set]; exact hl, fun m hm => ?_, d0, ?_⟩
      · by_cases c : p = m
        · subst c
          show 0 ≤ rd (T.set p _) (p : Int)
          rw [rd_set_same _ _ _ (by omega)]; omega
        · show 0 ≤ rd (T.set p _) (m : Int)
          rw [rd_set_other _ _ _ _ c]; exact h.nn m hm
      · show S4 (T.set p _) + L = C - t
        rw [S4_set _ hl p hp']
        have := h.sum
        simp only at this
        omega
    refine ⟨by rw [List.length_set, List.length_set]; exact hl, fun m hm => ?_, d0, ?_⟩
    · by_cases c : q = m
      · subst c
        show 0 ≤ rd ((T.set p _).set q _) (q : Int)
        rw [rd_set_same _ _ _ (by rw [List.length_set]; omega)]; omega
      · show 0 ≤ rd ((T.set p _).set q _) (m : Int)
        rw [rd_set_other _ _ _ _ c]; exact h1.nn m hm
    · show S4 ((T.set p _).set q _) + L = C
      rw [S4_set _ (by rw [List.length_set]; exact hl) q hq', rd_set_other _ _ _ _ hne]
      have := h1.sum
      simp only at this
      omega
  | false =>
    rw [if_neg (by decide)]
    exact h.set p hp' (by omega) (by omega) (by simp only; omega)
/-- One row keeps the sum. -/
theorem step_sum (l : List S36) (a2 : Int) (i : Nat) (hi : i ≤ 255) (hg : goodRow 4 (rd_T36 l (i : Int))) (hs : Small (rd_T36 l (i : Int))) (hA : (rd_T36 l a2).f4 < 40) (hat : (i : Int) = a2 → (rd_T36 l (i : Int)).f1 = 1) (B T : List Int) (L : Int) (inv : Inv 4 a2 i B T L)
    (h : PP (if a2 < (i : Int) then (rd_T36 l a2).f4 else 0) (T, L)) : PP (if a2 < ((i + 1 : Nat) : Int) then (rd_T36 l a2).f4 else 0) (stepF 4 a2 l (B, T, L) i).2 := by
  obtain ⟨hk, h4, g2, g2', g3, g3', g5⟩ := goodRow_of hg
  have hC : (if a2 < (i : Int) then (rd_T36 l a2).f4 else 0) ≤ 1000000 := by split <;> omega
  have pay : ∀ (one : Bool) (p q f4 : Int) (B' : List Int), f4 = (rd_T36 l (i : Int)).f4 → 0 ≤ p → p < 4 → 0 ≤ q → q < 4 → p ≠ q →
      PP (if a2 < ((i + 1 : Nat) : Int) then (rd_T36 l a2).f4 else 0) (if a2 ≤ (i : Int) then clipF B' (rPay a2 i one p q f4 B T L).1 (rPay a2 i one p q f4 B T L).2 4 else (T, L)) := by
    intro one p q f4 B' e4 p0 p1 q0 q1 hpq
    rcases Int.lt_trichotomy (i : Int) a2 with hc | hc | hc
    · rw [if_neg (by omega), if_neg (by omega)]
      rwa [if_neg (by omega)] at h
    · rw [if_pos (by omega), if_pos (by omega)]
      rw [if_neg (by omega)] at h hC
      refine clip_sum _ (by omega) _ _ _ ?_ 4 (Nat.le_refl _)
      unfold rPay
      rw [if_pos hc]
      obtain ⟨q, rfl⟩ := Int.eq_ofNat_of_zero_le q0
      obtain ⟨z, z2⟩ := inv.pre (by omega)
      have hq : q < 4 := by omega
      rw [Int.toNat_natCast]
      subst z
      have hl := h.len
      simp only at hl
      refine ⟨by rw [List.length_set]; exact hl, fun m hm => ?_, Int.le_refl _, ?_⟩
      · by_cases c : q = m
        · subst c
          show 0 ≤ rd (T.set q _) (q : Int)
          rw [rd_set_same _ _ _ (by omega), e4]; exact hs.2.1
        · show 0 ≤ rd (T.set q _) (m : Int)
          rw [rd_set_other _ _ _ _ c]; exact h.nn m hm
      · show S4 (T.set q _) + 0 = _
        rw [S4_set _ hl q hq, z2 q hq, e4, hc]
        have := h.sum
        simp only at this
        omega
    · rw [if_pos (by omega), if_pos (by omega)]
      rw [if_pos (by omega)] at h hC
      refine clip_sum _ hC _ _ _ ?_ 4 (Nat.le_refl _)
      unfold rPay
      rw [if_neg (by omega)]
      exact sp_sum _ hC one p q f4 B T L p0 p1 q0 q1 hpq h
  unfold stepF
  rcases hk with e | e | e
  · rw [e, row_one 4 a2 i _ _ _ B T L g2 g3 g5 h4]
    exact pay true _ _ _ _ rfl g2 g2' g3 g3' g5
  · have hne : (i : Int) ≠ a2 := fun h => by have := hat h; omega
    rw [e, row_two 4 i a2 _ _ _ B T L inv (by omega) g2 g2' g3 g3' g5 h4 hne]
    have e : (if a2 < ((i + 1 : Nat) : Int) then (rd_T36 l a2).f4 else 0) = (if a2 < (i : Int) then (rd_T36 l a2).f4 else 0) := by
      by_cases c : a2 < (i : Int)
      · rw [if_pos c, if_pos (by omega)]
      · rw [if_neg c, if_neg (by omega)]
    rw [e]
    exact h
  · have hne : (i : Int) ≠ a2 := fun h => by have := hat h; omega
    rw [e, row_three 4 a2 i _ _ _ B T L g2 g3 g5 h4 hne]
    exact pay false _ _ _ _ rfl g3 g3' g2 g2' (Ne.symm g5)
theorem fold_sum (l : List S36) (hl : l.length ≤ 256) (a2 : Int) (ha0 : 0 ≤ a2) (ha1 : a2 < (l.length : Int)) (hg : ∀ r ∈ l, goodRow 4 r) (hs : ∀ r ∈ l, Small r) (hat : (rd_T36 l a2).f1 = 1) (l1 : List Int) (h1 : l1.length = 4) (ho : ∀ x ∈ l1, inRange x) (m : Nat) (hm : m ≤ l.length) :
    PP (if a2 < (m : Int) then (rd_T36 l a2).f4 else 0) (foldF 4 a2 l l1 m).2 := by
  induction m with
  | zero =>
    rw [if_neg (by omega)]
    refine ⟨rfl, fun p hp => ?_, Int.le_refl _, rfl⟩
    rcases (by omega : p = 0 ∨ p = 1 ∨ p = 2 ∨ p = 3) with rfl | rfl | rfl | rfl <;> exact Int.le_refl _
  | succ m ih =>
    have hlt : m < l.length := by omega
    have hmem := rdT_mem l m (by omega) (by omega)
    rw [foldF_succ]
    exact step_sum l a2 m (by omega) (hg _ hmem) (hs _ hmem) (hs _ (rdT_mem l a2 ha0 ha1)).2.2.1 (fun h => by rw [h]; exact hat) _ _ _ (fold_bal 4 (by decide) l hl a2 hg hs hat l1 h1 ho m (by omega)).1 (ih (by omega))
end Go.Proofs.Ytljenpakncmlkaa.TrEq
