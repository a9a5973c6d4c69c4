/- undervalue.Trace answers as the definition does: row by row. -/
import Derived.Test.YtljenpakncmlkaaTraceCut
namespace Go.Proofs.Ytljenpakncmlkaa.TrEq
open Go.RowKit Go.Proofs.YtljenpakncmlkaaW.PrintWords Go.Proofs.YtljenpakncmlkaaW.PrintMore Go.Proofs.Ytljenpakncmlkaa.PAll Go.Proofs.Ytljenpakncmlkaa.LRows Go.Proofs.Ytljenpakncmlkaa.Tr Go.Proofs.Ytljenpakncmlkaa.Hist

/-- What holds ahead of row i. -/
structure Inv (n : Nat) (a2 : Int) (i : Nat) (B T : List Int) (L : Int) : Prop where
  lb : B.length = n
  lt : T.length = n
  bal : ∀ p : Nat, p < n → -1125899906842624 * ((i : Int) + 1) ≤ rd B (p : Int) ∧ rd B (p : Int) ≤ 1125899906842624 * ((i : Int) + 1)
  tr : ∀ p : Nat, p < n → 0 ≤ rd T (p : Int) ∧ rd T (p : Int) ≤ mx (rd B (p : Int)) 0
  lo : I64 L
  pre : (i : Int) ≤ a2 → L = 0 ∧ ∀ p : Nat, p < n → rd T (p : Int) = 0
theorem goodRow_of {n : Int} {r : S36} (h : goodRow n r) : (r.f1 = 1 ∨ r.f1 = 2 ∨ r.f1 = 3) ∧ Cents r.f4 ∧ 0 ≤ r.f2 ∧ r.f2 < n ∧ 0 ≤ r.f3 ∧ r.f3 < n ∧ r.f2 ≠ r.f3 := by
  obtain ⟨h1, h2⟩ := h
  unfold badRow at h1
  unfold badParty at h2
  unfold Cents
  omega
/-- Payments move a balance by one amount at most. -/
theorem pay_bal (n i : Nat) (hi : i ≤ 256) (p q f4 : Int) (B : List Int) (hb : B.length = n) (p0 : 0 ≤ p) (p1 : p < n) (q0 : 0 ≤ q) (q1 : q < n) (hpq : p ≠ q) (h4 : Cents f4)
    (h : ∀ p : Nat, p < n → -1125899906842624 * ((i : Int) + 1) ≤ rd B (p : Int) ∧ rd B (p : Int) ≤ 1125899906842624 * ((i : Int) + 1)) :
    ∀ m : Nat, m < n → -1125899906842624 * (((i + 1 : Nat) : Int) + 1) ≤ rd (payF p q f4 B) (m : Int) ∧ rd (payF p q f4 B) (m : Int) ≤ 1125899906842624 * (((i + 1 : Nat) : Int) + 1) := by
  intro m hm
  obtain ⟨p, rfl⟩ := Int.eq_ofNat_of_zero_le p0
  obtain ⟨q, rfl⟩ := Int.eq_ofNat_of_zero_le q0
  have hp' : p < n := by omega
  have hq' : q < n := by omega
  have hne : p ≠ q := by omega
  unfold payF
  rw [Int.toNat_natCast, Int.toNat_natCast, rd_set_other B p q _ hne]
  obtain ⟨a1, a3⟩ := h m hm
  obtain ⟨b1, b3⟩ := h p hp'
  obtain ⟨c1, c3⟩ := h q hq'
  obtain ⟨d0, d1⟩ := h4
  have e1 : wrap64 (rd B (p : Int) - f4) = rd B (p : Int) - f4 := wI64 _ ⟨by omega, by omega⟩
  have e2 : wrap64 (rd B (q : Int) + f4) = rd B (q : Int) + f4 := wI64 _ ⟨by omega, by omega⟩
  rw [e1, e2]
  clear e1 e2
  by_cases hmq : q = m
  · subst hmq
    rw [rd_set_same _ _ _ (by rw [List.length_set]; omega)]
    omega
  · rw [rd_set_other _ _ _ _ hmq]
    by_cases hmp : p = m
    · subst hmp
      rw [rd_set_same _ _ _ (by omega)]
      omega
    · rw [rd_set_other _ _ _ _ hmp]
      omega
end Go.Proofs.Ytljenpakncmlkaa.TrEq
/- One row: the definition's loop and the tracer's step, and the invariant behind it. -/
namespace Go.Proofs.Ytljenpakncmlkaa.TrEq
open Go.RowKit Go.Proofs.YtljenpakncmlkaaW.PrintWords Go.Proofs.YtljenpakncmlkaaW.PrintMore Go.Proofs.Ytljenpakncmlkaa.PAll Go.Proofs.Ytljenpakncmlkaa.LRows Go.Proofs.Ytljenpakncmlkaa.Tr Go.Proofs.Ytljenpakncmlkaa.Hist

theorem mn_comm (a b : Int) : mn a b = mn b a := by unfold mn; split <;> split <;> omega
theorem mn_bd (a b : Int) (ha : 0 ≤ a) (hb : 0 ≤ b) : 0 ≤ mn a b ∧ mn a b ≤ b := by unfold mn; split <;> omega
theorem tk_taken (p f4 : Int) (B T : List Int) : tk p f4 B T = taken B T p f4 := by unfold tk taken; exact mn_comm _ _
theorem tk_bd (p f4 : Int) (B T : List Int) (h : 0 ≤ rd T p) : 0 ≤ tk p f4 B T ∧ tk p f4 B T ≤ rd T p := by unfold tk; exact mn_bd _ _ (mx0 _) h
theorem mid_of (n i : Nat) (hi : i ≤ 256) (B : List Int) (h : ∀ p : Nat, p < n → -1125899906842624 * ((i : Int) + 1) ≤ rd B (p : Int) ∧ rd B (p : Int) ≤ 1125899906842624 * ((i : Int) + 1)) : ∀ p : Nat, p < n → -288230376151711744 - 1125899906842624 ≤ rd B (p : Int) ∧ rd B (p : Int) ≤ 288230376151711744 + 1125899906842624 := by
  intro p hp
  obtain ⟨a, b⟩ := h p hp
  omega
/-- What a spending leaves: nothing below 0, nothing great. -/
theorem sp_bd (n : Nat) (one : Bool) (p q f4 : Int) (B T : List Int) (L : Int) (hT : T.length = n) (p0 : 0 ≤ p) (p1 : p < n) (q0 : 0 ≤ q) (q1 : q < n) (hpq : p ≠ q) (hl : I64 L)
    (h : ∀ m : Nat, m < n → 0 ≤ rd T (m : Int) ∧ rd T (m : Int) ≤ 289356276058554368) :
    (rSp one p q f4 B T L).1.length = n ∧ I64 (rSp one p q f4 B T L).2 ∧ ∀ m : Nat, m < n → 0 ≤ rd (rSp one p q f4 B T L).1 (m : Int) ∧ Mid (rd (rSp one p q f4 B T L).1 (m : Int)) := by
  obtain ⟨p, rfl⟩ := Int.eq_ofNat_of_zero_le p0
  obtain ⟨q, rfl⟩ := Int.eq_ofNat_of_zero_le q0
  have hp' : p < n := by omega
  have hq' : q < n := by omega
  have hne : p ≠ q := by omega
  obtain ⟨t0, t1⟩ := tk_bd (p : Int) f4 B T (h p hp').1
  obtain ⟨a0, a1⟩ := h p hp'
  obtain ⟨b0, b1⟩ := h q hq'
  unfold rSp
  rw [Int.toNat_natCast, Int.toNat_natCast, rd_set_other T p q _ hne]
  generalize tk (p : Int) f4 B T = t at *
  have e1 : wrap64 (rd T (p : Int) - t) = rd T (p : Int) - t := wI64 _ ⟨by omega, by omega⟩
  have e2 : wrap64 (rd T (q : Int) + t) = rd T (q : Int) + t := wI64 _ ⟨by omega, by omega⟩
  rw [e1, e2]
  clear e1 e2
  unfold Mid
  cases one with
  | true =>
    rw [if_pos rfl]
    refine ⟨by simp [hT], hl, fun m hm => ?_⟩
    obtain ⟨c0, c1⟩ := h m hm
    by_cases hmq : q = m
    · subst hmq
      rw [rd_set_same _ _ _ (by rw [List.length_set]; omega)]
      omega
    · rw [rd_set_other _ _ _ _ hmq]
      by_cases hmp : p = m
      · subst hmp
        rw [rd_set_same _ _ _ (by omega)]
        omega
      · rw [rd_set_other _ _ _ _ hmp]
        omega
  | false =>
    rw [if_neg (by decide)]
    refine ⟨by simp [hT], wrap_I64 _, fun m hm => ?_⟩
    obtain ⟨c0, c1⟩ := h m hm
    by_cases hmp : p = m
    · subst hmp
      rw [rd_set_same _ _ _ (by omega)]
      omega
    · rw [rd_set_other _ _ _ _ hmp]
      omega
/-- Before the traced payment nothing is spent. -/
theorem sp_zero (n : Nat) (one : Bool) (p q f4 : Int) (B T : List Int) (hT : T.length = n) (p0 : 0 ≤ p) (p1 : p < n) (q0 : 0 ≤ q) (q1 : q < n) (h : ∀ m : Nat, m < n → rd T (m : Int) = 0) : rSp one p q f4 B T 0 = (T, 0) := by
  obtain ⟨p, rfl⟩ := Int.eq_ofNat_of_zero_le p0
  obtain ⟨q, rfl⟩ := Int.eq_ofNat_of_zero_le q0
  have hp' : p < n := by omega
  have hq' : q < n := by omega
  have zp := h p hp'
  have zq := h q hq'
  have t0 : tk (p : Int) f4 B T = 0 := by
    have h1 := tk_bd (p : Int) f4 B T (by omega)
    omega
  have w0 : wrap64 0 = 0 := wI64 0 ⟨by omega, by omega⟩
  have sp := set_self T p (by omega)
  have sq := set_self T q (by omega)
  rw [zp] at sp
  rw [zq] at sq
  unfold rSp
  rw [t0, Int.toNat_natCast, Int.toNat_natCast, zp]
  simp only [Int.sub_zero, Int.add_zero, w0, sp, zq, sq]
  cases one <;> rfl
end Go.Proofs.Ytljenpakncmlkaa.TrEq
/- The step and the whole loop. -/
namespace Go.Proofs.Ytljenpakncmlkaa.TrEq
open Go.RowKit Go.Proofs.YtljenpakncmlkaaW.PrintWords Go.Proofs.YtljenpakncmlkaaW.PrintMore Go.Proofs.Ytljenpakncmlkaa.PAll Go.Proofs.Ytljenpakncmlkaa.LRows Go.Proofs.Ytljenpakncmlkaa.Tr Go.Proofs.Ytljenpakncmlkaa.Hist

theorem mx_le {x b : Int} (h : x ≤ b) (hb : 0 ≤ b) : mx x 0 ≤ b := by unfold mx; split <;> omega
/-- A paying row: what is cut, and the invariant. -/
theorem pay_step (n i : Nat) (_hn : n ≤ 1000000) (hi : i ≤ 255) (a2 : Int) (one : Bool) (p q f4 : Int) (p0 : 0 ≤ p) (p1 : p < n) (q0 : 0 ≤ q) (q1 : q < n) (hpq : p ≠ q) (h4 : Cents f4) (B T : List Int) (L : Int) (inv : Inv n a2 i B T L) :
    rCut (payF p q f4 B) (rPay a2 i one p q f4 B T L) = (if a2 ≤ (i : Int) then clipF (payF p q f4 B) (rPay a2 i one p q f4 B T L).1 (rPay a2 i one p q f4 B T L).2 n else (T, L)) ∧
    Inv n a2 (i + 1) (payF p q f4 B) (rCut (payF p q f4 B) (rPay a2 i one p q f4 B T L)).1 (rCut (payF p q f4 B) (rPay a2 i one p q f4 B T L)).2 := by
  have hlen : (payF p q f4 B).length = n := by unfold payF; simp [inv.lb]
  have hbal := pay_bal n i (by omega) p q f4 B inv.lb p0 p1 q0 q1 hpq h4 inv.bal
  have hmid : ∀ m : Nat, m < (payF p q f4 B).length → Mid (rd (payF p q f4 B) (m : Int)) := by
    intro m hm
    obtain ⟨c1, c2⟩ := mid_of n (i + 1) (by omega) _ hbal m (by omega)
    exact ⟨by omega, by omega⟩
  have hT : ∀ m : Nat, m < n → 0 ≤ rd T (m : Int) ∧ rd T (m : Int) ≤ 289356276058554368 := by
    intro m hm
    obtain ⟨c1, c2⟩ := mid_of n i (by omega) B inv.bal m hm
    exact ⟨(inv.tr m hm).1, Int.le_trans (inv.tr m hm).2 (mx_le (by omega) (by omega))⟩
  have hs : (rPay a2 i one p q f4 B T L).1.length = n ∧ I64 (rPay a2 i one p q f4 B T L).2 ∧ ∀ m : Nat, m < n → 0 ≤ rd (rPay a2 i one p q f4 B T L).1 (m : Int) ∧ Mid (rd (rPay a2 i one p q f4 B T L).1 (m : Int)) := by
    unfold rPay
    split
    · refine ⟨by rw [List.length_set]; exact inv.lt, inv.lo, fun m hm => ?_⟩
      obtain ⟨q, rfl⟩ := Int.eq_ofNat_of_zero_le q0
      obtain ⟨t0, t1⟩ := hT m hm
      obtain ⟨d0, d1⟩ := h4
      unfold Mid
      rw [Int.toNat_natCast]
      by_cases hmq : q = m
      · subst hmq
        rw [rd_set_same _ _ _ (by rw [inv.lt]; exact hm)]
        omega
      · rw [rd_set_other _ _ _ _ hmq]
        omega
    · exact sp_bd n one p q f4 B T L inv.lt p0 p1 q0 q1 hpq inv.lo hT
  have hpre : (i : Int) < a2 → rPay a2 i one p q f4 B T L = (T, L) := by
    intro h
    obtain ⟨z, z2⟩ := inv.pre (by omega)
    unfold rPay
    rw [if_neg (by omega), z]
    exact sp_zero n one p q f4 B T inv.lt p0 p1 q0 q1 z2
  obtain ⟨s1, s2, s3⟩ := hs
  generalize rPay a2 i one p q f4 B T L = S at *
  obtain ⟨T1, L1⟩ := S
  simp only at s1 s2 s3
  have hcut : rCut (payF p q f4 B) (T1, L1) = clipF (payF p q f4 B) T1 L1 n := by
    have := cut_eq (payF p q f4 B) T1 L1 (by omega) s2 hmid (fun m hm => s3 m (by omega))
    rw [hlen] at this
    exact this
  rw [hcut]
  obtain ⟨i1, i2, _, i4⟩ := clip_inv (payF p q f4 B) T1 L1 s2 (fun m hm => (s3 m (by omega)).1) n (by omega)
  have hnone : (i : Int) < a2 → clipF (payF p q f4 B) T1 L1 n = (T, L) := by
    intro h
    have e := hpre h
    simp only [Prod.mk.injEq] at e
    rw [e.1, e.2]
    obtain ⟨_, z2⟩ := inv.pre (by omega)
    exact clip_none _ _ _ _ (fun m hm => by rw [z2 m hm]; exact mx0 _)
  refine ⟨?_, hlen, by rw [i1]; exact s1, hbal, i4, i2, fun h => ?_⟩
  · split
    · rfl
    · exact hnone (by omega)
  · have h' : (i : Int) < a2 := by omega
    rw [hnone h']
    exact inv.pre (by omega)
end Go.Proofs.Ytljenpakncmlkaa.TrEq
/- The whole loop. -/
namespace Go.Proofs.Ytljenpakncmlkaa.TrEq
open Go.RowKit Go.Proofs.YtljenpakncmlkaaW.PrintWords Go.Proofs.YtljenpakncmlkaaW.PrintMore Go.Proofs.Ytljenpakncmlkaa.PAll Go.Proofs.Ytljenpakncmlkaa.LRows Go.Proofs.Ytljenpakncmlkaa.Tr Go.Proofs.Ytljenpakncmlkaa.Hist

theorem sp_one (f2 f3 f4 : Int) (B T : List Int) (L : Int) (h2 : 0 ≤ f2) (h3 : 0 ≤ f3) (h : f2 ≠ f3) : spF 1 f2 f3 f4 B T L = rSp true f2 f3 f4 B T L := by
  unfold spF rSp
  rw [if_pos rfl, if_pos rfl, tk_taken, rd_set_ne T f2 f3 _ (toNat_ne h2 h3 h)]
theorem sp_three (f2 f3 f4 : Int) (B T : List Int) (L : Int) : spF 3 f2 f3 f4 B T L = rSp false f3 f2 f4 B T L := by
  unfold spF rSp
  rw [if_neg (by decide), if_neg (by decide), tk_taken]
theorem row_one (n : Nat) (a2 i f2 f3 f4 : Int) (B T : List Int) (L : Int) (h2 : 0 ≤ f2) (h3 : 0 ≤ f3) (h : f2 ≠ f3) (h4 : Cents f4) :
    rowF n a2 i 1 f2 f3 f4 B T L = (payF f2 f3 f4 B, if a2 ≤ i then clipF (payF f2 f3 f4 B) (rPay a2 i true f2 f3 f4 B T L).1 (rPay a2 i true f2 f3 f4 B T L).2 n else (T, L)) := by
  unfold rowF rPay
  simp only [mv_one f2 f3 f4 B h h4]
  rcases Int.lt_trichotomy i a2 with hc | hc | hc
  · simp only [if_neg (show ¬ i = a2 by omega), if_neg (show ¬ (a2 < i ∧ (1 : Int) ≠ 2) by omega), if_neg (show ¬ a2 ≤ i by omega)]
  · subst hc
    simp only [reduceIte, if_neg (show ¬ (i < i ∧ (1 : Int) ≠ 2) by omega), if_pos (show i ≤ i by omega)]
  · simp only [if_neg (show ¬ i = a2 by omega), if_pos (show a2 < i ∧ (1 : Int) ≠ 2 from ⟨hc, by decide⟩), if_pos (show a2 ≤ i by omega), sp_one f2 f3 f4 B T L h2 h3 h]
theorem row_three (n : Nat) (a2 i f2 f3 f4 : Int) (B T : List Int) (L : Int) (h2 : 0 ≤ f2) (h3 : 0 ≤ f3) (h : f2 ≠ f3) (h4 : Cents f4) (hi : i ≠ a2) :
    rowF n a2 i 3 f2 f3 f4 B T L = (payF f3 f2 f4 B, if a2 ≤ i then clipF (payF f3 f2 f4 B) (rPay a2 i false f3 f2 f4 B T L).1 (rPay a2 i false f3 f2 f4 B T L).2 n else (T, L)) := by
  unfold rowF rPay
  simp only [mv_three f2 f3 f4 B h h2 h3 h4]
  rcases Int.lt_trichotomy i a2 with hc | hc | hc
  · simp only [if_neg hi, if_neg (show ¬ (a2 < i ∧ (3 : Int) ≠ 2) by omega), if_neg (show ¬ a2 ≤ i by omega)]
  · exact absurd hc hi
  · simp only [if_neg hi, if_pos (show a2 < i ∧ (3 : Int) ≠ 2 from ⟨hc, by decide⟩), if_pos (show a2 ≤ i by omega), sp_three f2 f3 f4 B T L]
theorem row_two (n i : Nat) (a2 f2 f3 f4 : Int) (B T : List Int) (L : Int) (inv : Inv n a2 i B T L) (hi2 : i ≤ 256) (h2 : 0 ≤ f2) (h2' : f2 < n) (h3 : 0 ≤ f3) (h3' : f3 < n) (h : f2 ≠ f3) (h4 : Cents f4) (hi : (i : Int) ≠ a2) :
    rowF n a2 i 2 f2 f3 f4 B T L = (B, T, L) := by
  have hB : mvF 2 f2 f3 f4 B 2 = B := mv_two f2 f3 f4 B h h2 (by rw [inv.lb]; exact h2') h3 (by rw [inv.lb]; exact h3') h4 (fun p hp => by
    obtain ⟨c1, c2⟩ := inv.bal p (by rw [← inv.lb]; exact hp)
    exact ⟨by omega, by omega⟩)
  unfold rowF
  simp only [hB, if_neg hi, if_neg (show ¬ (a2 < (i : Int) ∧ (2 : Int) ≠ 2) from fun h => h.2 rfl)]
  split
  · rw [clip_none B T L n (fun p hp => (inv.tr p hp).2)]
  · rfl
theorem row_step (n : Nat) (hn : n ≤ 1000000) (l : List S36) (hl : l.length ≤ 256) (a2 : Int) (i : Nat) (hi : i < l.length) (hg : goodRow n (rd_T36 l (i : Int))) (hat : (i : Int) = a2 → (rd_T36 l (i : Int)).f1 = 1) (B T : List Int) (L : Int) (inv : Inv n a2 i B T L) :
    Inv n a2 (i + 1) (stepF n a2 l (B, T, L) i).1 (stepF n a2 l (B, T, L) i).2.1 (stepF n a2 l (B, T, L) i).2.2 ∧
    ∃ c, 1 ≤ c ∧ c ≤ n + 4 ∧ ∀ k, insolvencyref25_Trace.l0 (k + c) l a2 B T L (i : Int) = insolvencyref25_Trace.l0 k l a2 (stepF n a2 l (B, T, L) i).1 (stepF n a2 l (B, T, L) i).2.1 (stepF n a2 l (B, T, L) i).2.2 ((i + 1 : Nat) : Int) := by
  obtain ⟨hk, h4, g2, g2', g3, g3', g5⟩ := goodRow_of hg
  have hlm : l.length ≤ maxLen := by unfold maxLen; omega
  have hB := inv.lb
  unfold stepF
  rcases hk with e | e | e
  · rw [e]
    rw [row_one n a2 i _ _ _ B T L g2 g3 g5 h4]
    obtain ⟨e1, e2⟩ := pay_step n i hn (by omega) a2 true _ _ _ g2 g2' g3 g3' g5 h4 B T L inv
    rw [← e1]
    refine ⟨e2, B.length + 4, by omega, by omega, fun k => ?_⟩
    exact ref_row k l hlm a2 B T (by omega) (by rw [inv.lt, hB]) L i hi true _ _ (.inl ⟨rfl, e, rfl, rfl⟩) g2 (by rw [hB]; exact g2') g3 (by rw [hB]; exact g3')
  · have hne : (i : Int) ≠ a2 := fun h => by have := hat h; omega
    rw [e, row_two n i a2 _ _ _ B T L inv (by omega) g2 g2' g3 g3' g5 h4 hne]
    refine ⟨⟨inv.lb, inv.lt, fun p hp => ?_, inv.tr, inv.lo, fun h => inv.pre (by omega)⟩, 2, by omega, by omega, fun k => ref_two k l hlm a2 B T L i hi e⟩
    obtain ⟨c1, c2⟩ := inv.bal p hp
    show -1125899906842624 * (((i + 1 : Nat) : Int) + 1) ≤ rd B (p : Int) ∧ rd B (p : Int) ≤ 1125899906842624 * (((i + 1 : Nat) : Int) + 1)
    omega
  · have hne : (i : Int) ≠ a2 := fun h => by have := hat h; omega
    rw [e]
    rw [row_three n a2 i _ _ _ B T L g2 g3 g5 h4 hne]
    obtain ⟨e1, e2⟩ := pay_step n i hn (by omega) a2 false _ _ _ g3 g3' g2 g2' (Ne.symm g5) h4 B T L inv
    rw [← e1]
    refine ⟨e2, B.length + 4, by omega, by omega, fun k => ?_⟩
    exact ref_row k l hlm a2 B T (by omega) (by rw [inv.lt, hB]) L i hi false _ _ (.inr ⟨rfl, e, rfl, rfl⟩) g3 (by rw [hB]; exact g3') g2 (by rw [hB]; exact g2')
/-- The whole loop: what it answers is the fold. -/
theorem ref_all (n : Nat) (hn : n ≤ 1000000) (l : List S36) (hl : l.length ≤ 256) (a2 : Int) (hg : ∀ r ∈ l, goodRow n r) (hat : (rd_T36 l a2).f1 = 1) (d : Nat) :
    ∀ (k i : Nat) (B T : List Int) (L : Int), l.length - i = d → i ≤ l.length → Inv n a2 i B T L → d * (n + 4) < k →
      insolvencyref25_Trace.l0 k l a2 B T L (i : Int) = some (((List.range' i d).foldl (stepF n a2 l) (B, T, L)).2.1, ((List.range' i d).foldl (stepF n a2 l) (B, T, L)).2.2, 0) := by
  induction d with
  | zero =>
    intro k i B T L hd hi _ hk
    obtain ⟨k, rfl⟩ : ∃ m, k = m + 1 := ⟨k - 1, by omega⟩
    rw [insolvencyref25_Trace.l0, if_neg (by omega)]
    rfl
  | succ d ih =>
    intro k i B T L hd hi inv hk
    have hlt : i < l.length := by omega
    obtain ⟨e1, c, c1, c2, e2⟩ := row_step n hn l hl a2 i hlt (hg _ (rdT_mem l i (by omega) (by omega))) (fun h => by rw [h]; exact hat) B T L inv
    rw [Nat.succ_mul] at hk
    obtain ⟨k, rfl⟩ : ∃ m, k = m + c := ⟨k - c, by omega⟩
    rw [e2 k, List.range'_succ, List.foldl_cons]
    exact ih k (i + 1) _ _ _ (by omega) (by omega) e1 (by omega)
end Go.Proofs.Ytljenpakncmlkaa.TrEq
