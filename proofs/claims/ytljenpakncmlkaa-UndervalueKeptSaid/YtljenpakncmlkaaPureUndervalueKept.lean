/- The law UndervalueKept, over numbers and lists alone: for all arguments in their kinds' ranges the printed law answers true. -/
import Derived.Test.YtljenpakncmlkaaTrHelp
import Derived.Test.YtljenpakncmlkaaTypesUndervalueKept
namespace Go.Proofs.Ytljenpakncmlkaa.Pure
open Go.RowKit Go.Proofs.YtljenpakncmlkaaW.PrintWords Go.Proofs.YtljenpakncmlkaaW.PrintMore Go.Proofs.Ytljenpakncmlkaa.PAll Go.Proofs.Ytljenpakncmlkaa.Types Go.Proofs.Ytljenpakncmlkaa.LRows Go.Proofs.Ytljenpakncmlkaa.TrEq Go.Proofs.Ytljenpakncmlkaa.Tr Go.Proofs.Ytljenpakncmlkaa.Hist Go.Proofs.Ytljenpakncmlkaa.TrH

theorem mn_cut (A x b : Int) (hA : 0 ≤ A) : mn (mn A (mx x 0)) (mx b 0) = mn A (mx (mn x b) 0) := by
  unfold mn mx
  grind (splits := 40)
theorem mn_same (t y : Int) (h : t ≤ y) : mn t y = t := by unfold mn; split <;> omega
theorem mn_zero (y : Int) (h : 0 ≤ y) : mn 0 y = 0 := by unfold mn; split <;> omega
theorem mn_bds (A x : Int) (hA : 0 ≤ A) : 0 ≤ mn A (mx x 0) ∧ mn A (mx x 0) ≤ A := by unfold mn mx; split <;> split <;> omega
theorem clip_val (B T : List Int) (L : Int) (m : Nat) (hm : m ≤ T.length) :
    (clipF B T L m).1.length = T.length ∧ (∀ p : Nat, m ≤ p → rd (clipF B T L m).1 (p : Int) = rd T (p : Int)) ∧ (∀ p : Nat, p < m → rd (clipF B T L m).1 (p : Int) = mn (rd T (p : Int)) (mx (rd B (p : Int)) 0)) := by
  induction m with
  | zero => exact ⟨rfl, fun _ _ => rfl, fun p hp => absurd hp (Nat.not_lt_zero _)⟩
  | succ m ih =>
    obtain ⟨i1, i3, i4⟩ := ih (by omega)
    rw [clipF_succ]
    generalize clipF B T L m = s at *
    have hs : rd s.1 (m : Int) = rd T (m : Int) := i3 m (Nat.le_refl _)
    have hlt : m < s.1.length := by omega
    unfold clipStep
    split
    · rename_i hc
      refine ⟨by rw [List.length_set]; exact i1, fun p hp => ?_, fun p hp => ?_⟩
      · rw [rd_set_other _ _ _ _ (by omega)]; exact i3 p (by omega)
      · by_cases hpm : p = m
        · subst hpm
          rw [rd_set_same _ _ _ hlt, ← hs]
          unfold mn; split <;> omega
        · rw [rd_set_other _ _ _ _ (Ne.symm hpm)]; exact i4 p (by omega)
    · rename_i hc
      refine ⟨i1, fun p hp => i3 p (by omega), fun p hp => ?_⟩
      by_cases hpm : p = m
      · subst hpm
        rw [mn_same _ _ (by rw [← hs]; exact Int.not_lt.mp hc)]; exact hs
      · exact i4 p (by omega)
/-- All traced money lies with one party. -/
def KInv (pt : Int) (v : Int) (T : List Int) : Prop := ∀ q : Nat, q < 4 → rd T (q : Int) = if (q : Int) = pt then v else 0
theorem sp_none (one : Bool) (p q f4 : Int) (B T : List Int) (L : Int) (hT : T.length = 4) (p0 : 0 ≤ p) (p1 : p < 4) (q0 : 0 ≤ q) (q1 : q < 4) (hpq : p ≠ q) (hb : ∀ m : Nat, m < 4 → 0 ≤ rd T (m : Int) ∧ rd T (m : Int) ≤ 40) (ht : tk p f4 B T = 0) (m : Nat) :
    (rSp one p q f4 B T L).1.length = 4 ∧ rd (rSp one p q f4 B T L).1 (m : Int) = rd T (m : Int) := by
  obtain ⟨p, rfl⟩ := Int.eq_ofNat_of_zero_le p0
  obtain ⟨q, rfl⟩ := Int.eq_ofNat_of_zero_le q0
  have hp' : p < 4 := by omega
  have hq' : q < 4 := by omega
  have hne : p ≠ q := by omega
  obtain ⟨a0, a1⟩ := hb p hp'
  obtain ⟨b0, b1⟩ := hb q hq'
  unfold rSp
  rw [ht, Int.toNat_natCast, Int.toNat_natCast, rd_set_other T p q _ hne, Int.sub_zero, Int.add_zero]
  have e1 : wrap64 (rd T (p : Int)) = rd T (p : Int) := wI64 _ ⟨by omega, by omega⟩
  have e2 : wrap64 (rd T (q : Int)) = rd T (q : Int) := wI64 _ ⟨by omega, by omega⟩
  rw [e1, e2, set_self T p (by omega), set_self T q (by omega)]
  cases one with
  | true => rw [if_pos rfl]; exact ⟨hT, rfl⟩
  | false => rw [if_neg (by decide)]; exact ⟨hT, rfl⟩
theorem tk_none (p f4 : Int) (B T : List Int) (hb : 0 ≤ rd T p ∧ rd T p ≤ 40) (hB : rd T p ≤ mx (rd B p) 0 ∧ mx (rd B p) 0 ≤ 1000000000000000000) (h : rd T p = 0 ∨ f4 = 0) : tk p f4 B T = 0 := by
  unfold tk
  rcases h with h | h
  · rw [h, mn_comm]; exact mn_zero _ (mx0 _)
  · subst h
    generalize mx (rd B p) 0 = y at *
    have e1 : wrap64 (y - rd T p) = y - rd T p := wI64 _ ⟨by omega, by omega⟩
    have e2 : wrap64 (0 - (y - rd T p)) = 0 - (y - rd T p) := wI64 _ ⟨by omega, by omega⟩
    rw [e1, e2]
    clear e1 e2
    have e3 : mx (0 - (y - rd T p)) 0 = 0 := by unfold mx; split <;> omega
    rw [e3]
    exact mn_zero _ hb.1
theorem bal_mx (i : Nat) (hi : i ≤ 256) (a2 : Int) (B T : List Int) (L : Int) (inv : Inv 4 a2 i B T L) (q : Nat) (hq : q < 4) : mx (rd B (q : Int)) 0 ≤ 1000000000000000000 := by
  obtain ⟨c1, c2⟩ := inv.bal q hq
  exact mx_le (by omega) (by omega)
/-- A row behind the payment in which the party pays nothing. -/
theorem kept_step (l : List S36) (a2 : Int) (i : Nat) (hi : i ≤ 255) (hai : a2 < (i : Int)) (hg : goodRow 4 (rd_T36 l (i : Int))) (hs : Small (rd_T36 l (i : Int))) (pt A x : Int) (hA : 0 ≤ A ∧ A < 40) (ht0 : 0 ≤ pt) (ht1 : pt < 4)
    (hm : ¬ mny (rd_T36 l (i : Int)) pt < 0) (B T : List Int) (L : Int) (inv : Inv 4 a2 i B T L) (hK : KInv pt (mn A (mx x 0)) T) :
    KInv pt (mn A (mx (mn x (rd (stepF 4 a2 l (B, T, L) i).1 pt)) 0)) (stepF 4 a2 l (B, T, L) i).2.1 := by
  obtain ⟨hk, h4, g2, g2', g3, g3', g5⟩ := goodRow_of hg
  have hv := mn_bds A x hA.1
  have hb : ∀ m : Nat, m < 4 → 0 ≤ rd T (m : Int) ∧ rd T (m : Int) ≤ 40 := by
    intro m hm
    rw [hK m hm]
    split <;> omega
  obtain ⟨tn, rfl⟩ := Int.eq_ofNat_of_zero_le ht0
  have htn : tn < 4 := by omega
  have pay : ∀ (one : Bool) (p q f4 : Int) (B' : List Int), 0 ≤ p → p < 4 → 0 ≤ q → q < 4 → p ≠ q → (p = (tn : Int) → f4 = 0) →
      KInv (tn : Int) (mn A (mx (mn x (rd B' (tn : Int))) 0)) (if a2 ≤ (i : Int) then clipF B' (rPay a2 i one p q f4 B T L).1 (rPay a2 i one p q f4 B T L).2 4 else (T, L)).1 := by
    intro one p q f4 B' p0 p1 q0 q1 hpq hz
    rw [if_pos (by omega)]
    unfold rPay
    rw [if_neg (by omega)]
    have htk : tk p f4 B T = 0 := by
      obtain ⟨pn, rfl⟩ := Int.eq_ofNat_of_zero_le p0
      refine tk_none _ _ _ _ (hb pn (by omega)) ⟨(inv.tr pn (by omega)).2, bal_mx i (by omega) a2 B T L inv pn (by omega)⟩ ?_
      by_cases c : (pn : Int) = (tn : Int)
      · exact .inr (hz c)
      · left
        rw [hK pn (by omega), if_neg c]
    have hsp := sp_none one p q f4 B T L inv.lt p0 p1 q0 q1 hpq hb htk
    intro m hm
    rw [(clip_val B' _ _ 4 (by rw [(hsp 0).1]; exact Nat.le_refl _)).2.2 m hm, (hsp m).2, hK m hm]
    by_cases c : (m : Int) = (tn : Int)
    · rw [if_pos c, if_pos c, c]
      exact mn_cut _ _ _ hA.1
    · rw [if_neg c, if_neg c]
      exact mn_zero _ (mx0 _)
  unfold stepF
  rcases hk with e | e | e
  · rw [mny_one _ e] at hm
    rw [e, row_one 4 a2 i _ _ _ B T L g2 g3 g5 h4]
    refine pay true _ _ _ _ g2 g2' g3 g3' g5 (fun c => ?_)
    rw [if_pos c] at hm
    have := hs.2.1
    omega
  · have hne : (i : Int) ≠ a2 := by omega
    rw [e, row_two 4 i a2 _ _ _ B T L inv (by omega) g2 g2' g3 g3' g5 h4 hne]
    intro m hm
    show rd T (m : Int) = _
    rw [hK m hm]
    by_cases c : (m : Int) = (tn : Int)
    · rw [if_pos c, if_pos c, ← mn_cut _ _ _ hA.1]
      have := (inv.tr tn htn).2
      rw [hK tn htn, if_pos rfl] at this
      exact (mn_same _ _ this).symm
    · rw [if_neg c, if_neg c]
  · have hne : (i : Int) ≠ a2 := by omega
    rw [mny_three _ e] at hm
    rw [e, row_three 4 a2 i _ _ _ B T L g2 g3 g5 h4 hne]
    refine pay false _ _ _ _ g3 g3' g2 g2' (Ne.symm g5) (fun c => ?_)
    rw [if_neg (fun h => g5 (h.trans c.symm)), if_pos c] at hm
    have := hs.2.1
    omega
/-- The payment itself. -/
theorem kept_at (l : List S36) (i : Nat) (hg : goodRow 4 (rd_T36 l (i : Int))) (hat : (rd_T36 l (i : Int)).f1 = 1) (B T : List Int) (L : Int) (inv : Inv 4 (i : Int) i B T L) :
    KInv (rd_T36 l (i : Int)).f3 (mn (rd_T36 l (i : Int)).f4 (mx (rd (stepF 4 (i : Int) l (B, T, L) i).1 (rd_T36 l (i : Int)).f3) 0)) (stepF 4 (i : Int) l (B, T, L) i).2.1 := by
  obtain ⟨_, h4, g2, g2', g3, g3', g5⟩ := goodRow_of hg
  obtain ⟨_, z2⟩ := inv.pre (Int.le_refl _)
  have hT := inv.lt
  unfold stepF
  rw [hat, row_one 4 (i : Int) i _ _ _ B T L g2 g3 g5 h4]
  generalize (rd_T36 l (i : Int)).f3 = q at *
  generalize (rd_T36 l (i : Int)).f4 = f4 at *
  simp only [if_pos (Int.le_refl (i : Int))]
  unfold rPay
  rw [if_pos rfl]
  obtain ⟨q, rfl⟩ := Int.eq_ofNat_of_zero_le g3
  have hq : q < 4 := by omega
  intro m hm
  rw [(clip_val _ _ _ 4 (by rw [List.length_set]; omega)).2.2 m hm, Int.toNat_natCast]
  by_cases c : q = m
  · subst c
    rw [rd_set_same _ _ _ (by omega), if_pos rfl]
  · rw [rd_set_other _ _ _ _ c, if_neg (by omega), z2 m hm]
    exact mn_zero _ (mx0 _)
theorem take_bal (r : List S36) (i : Nat) (h : i < r.length) (p o : Int) : balR (r.take (i + 1)) p o = balR (r.take i) p o + mny (rd_T36 r (i : Int)) p := by
  rw [List.take_succ_eq_append_getElem h]
  unfold balR
  rw [List.foldl_append]
  have e2 : r[i] = rd_T36 r (i : Int) := by
    show _ = r.getD (Int.toNat (i : Int)) z36
    rw [Int.toNat_natCast, List.getD_eq_getElem?_getD, List.getElem?_eq_getElem h]
    rfl
  rw [e2]
  rfl
theorem small_take {r : List S36} (h : ∀ x ∈ r, Small x) (i : Nat) : ∀ x ∈ r.take i, Small x := fun x hx => h x (List.mem_of_mem_take hx)
theorem kept_loop (r : List S36) (hf : TrH.Fine r) (p : Nat) (hp : p < r.length) (hk : (rd_T36 r (p : Int)).f1 = 1) (a : S23) (ha : ok23 a) (d : Nat) : ∀ (i : Nat) (x : Int) (pays : Bool), r.length - i = d → i ≤ r.length → p < i →
    (pays = false → KInv (rd_T36 r (p : Int)).f3 (mn (rd_T36 r (p : Int)).f4 (mx x 0)) (foldF 4 (p : Int) r (opnL a.f0 a.f1 a.f2 a.f3 4) i).2.1) →
    Ev (fun k => insolvencylaw27_UndervalueKept.l0 k r (p : Int) (rd_T36 r (p : Int)).f3 x (balR (r.take i) (rd_T36 r (p : Int)).f3 (rd (opnL a.f0 a.f1 a.f2 a.f3 4) (rd_T36 r (p : Int)).f3)) pays (i : Int) a.f0 a.f1 a.f2 a.f3) true := by
  have hlen := hf.len
  have hpm := rdT_mem r (p : Int) (by omega) (by omega)
  obtain ⟨_, h4p, _, _, q3, q3', _⟩ := goodRow_of (hf.good _ hpm)
  have hsp := hf.small _ hpm
  have hor := opnL_bd a
  have hin : ∀ x ∈ opnL a.f0 a.f1 a.f2 a.f3 4, inRange x := fun x hx => by have := hor x hx; unfold inRange; omega
  obtain ⟨tn, htn⟩ := Int.eq_ofNat_of_zero_le q3
  have htn4 : tn < 4 := by omega
  have hob := hor _ (rd_mem (opnL a.f0 a.f1 a.f2 a.f3 4) tn (by rw [opn_len]; exact htn4))
  have hans := ans_good r hf _ (p : Int) (opn_len a.f0 a.f1 a.f2 a.f3) hor ⟨by omega, by omega⟩ hk
  induction d with
  | zero =>
    intro i x pays hd hi hpi hK
    obtain rfl : i = r.length := by omega
    refine Ev.step (fun k => by simp only [insolvencylaw27_UndervalueKept.l0]; rfl) ?_
    have c1 : ¬ ((r.length : Nat) : Int) < ((r.length : Nat) : Int) := Int.lt_irrefl _
    simp only [c1, if_false]
    refine Ev.bind (tr_open a ha) (Ev.bind (tr_ev _ _ _ (opn_len _ _ _ _) hf _ hans) ?_)
    have hbal := fold_bal 4 (by decide) r (by omega) (p : Int) hf.good hf.small hk _ (opn_len a.f0 a.f1 a.f2 a.f3) hin r.length (Nat.le_refl _)
    generalize foldF 4 (p : Int) r (opnL a.f0 a.f1 a.f2 a.f3 4) r.length = F at *
    obtain ⟨B, T, L⟩ := F
    simp only at hbal hK ⊢
    have hl := hbal.1.lt
    have c2 : (((T.length : Nat) : Int) != 4) = false := by rw [hl]; rfl
    simp only [if_true, c2]
    refine Ev.step (fun k => by simp only [insolvencylaw27_UndervalueKept.j2]; rfl) ?_
    simp only [Bool.false_eq_true, if_false]
    cases pays with
    | true =>
      simp only [if_true]
      exact Ev.bind tr_awake (Ev.now _)
    | false =>
      simp only [Bool.false_eq_true, if_false]
      refine Ev.bind tr_awake ?_
      have k1 := hK rfl tn htn4
      rw [htn, if_pos rfl] at k1
      have c3 : (tn : Int) < ((T.length : Nat) : Int) := by omega
      have c4 : (p : Int) < ((r.length : Nat) : Int) := by omega
      have c5 : 0 ≤ (tn : Int) := by omega
      have c6 : 0 ≤ (p : Int) := by omega
      simp only [htn, if_true, c3, c4, c5, c6, k1, beq_self_eq_true]
      exact Ev.now _
  | succ d ih =>
    intro i x pays hd hi hpi hK
    have hlt : i < r.length := by omega
    have him := rdT_mem r (i : Int) (by omega) (by omega)
    have hsi := hf.small _ him
    obtain ⟨m1, m2⟩ := mny_bd _ hsi (rd_T36 r (p : Int)).f3
    have tb := take_bal r i hlt (rd_T36 r (p : Int)).f3 (rd (opnL a.f0 a.f1 a.f2 a.f3 4) (rd_T36 r (p : Int)).f3)
    have bb := balR_bd (r.take i) (small_take hf.small i) (rd_T36 r (p : Int)).f3 (rd (opnL a.f0 a.f1 a.f2 a.f3 4) (rd_T36 r (p : Int)).f3)
    have tl : (r.take i).length ≤ 24 := by rw [List.length_take]; omega
    have ih0 := fun x pays => ih (i + 1) x pays (by omega) (by omega) (by omega)
    have hfb := fold_bal 4 (by decide) r (by omega) (p : Int) hf.good hf.small hk _ (opn_len a.f0 a.f1 a.f2 a.f3) hin i (by omega)
    have hfb1 := (fold_bal 4 (by decide) r (by omega) (p : Int) hf.good hf.small hk _ (opn_len a.f0 a.f1 a.f2 a.f3) hin (i + 1) (by omega)).2 tn htn4
    rw [foldF_succ] at hfb1
    have hks : pays = false → ¬ mny (rd_T36 r (i : Int)) (rd_T36 r (p : Int)).f3 < 0 → KInv (rd_T36 r (p : Int)).f3 (mn (rd_T36 r (p : Int)).f4 (mx (mn x (balR (r.take (i + 1)) (rd_T36 r (p : Int)).f3 (rd (opnL a.f0 a.f1 a.f2 a.f3 4) (rd_T36 r (p : Int)).f3))) 0)) (foldF 4 (p : Int) r (opnL a.f0 a.f1 a.f2 a.f3 4) (i + 1)).2.1 := by
      intro hpays hm
      have := kept_step r (p : Int) i (by omega) (by omega) (hf.good _ him) hsi (rd_T36 r (p : Int)).f3 (rd_T36 r (p : Int)).f4 x ⟨hsp.2.1, hsp.2.2.1⟩ q3 q3' hm _ _ _ hfb.1 (hK hpays)
      rw [foldF_succ]
      rw [htn] at this ⊢
      rw [← hfb1]
      exact this
    refine Ev.step (fun k => by simp only [insolvencylaw27_UndervalueKept.l0]; rfl) ?_
    have c1 : ((i : Nat) : Int) < ((r.length : Nat) : Int) := by omega
    have c0 : (0 : Int) ≤ ((i : Nat) : Int) := by omega
    simp only [c1, c0, if_true]
    refine Ev.bind ⟨1, fun k hk => by obtain ⟨k, rfl⟩ : ∃ m, k = m + 1 := ⟨k - 1, by omega⟩; exact money_eq k _ hsi _⟩ ?_
    rw [htn] at bb m1 m2
    have e1 : wrap64 (balR (r.take i) (rd_T36 r (p : Int)).f3 (rd (opnL a.f0 a.f1 a.f2 a.f3 4) (rd_T36 r (p : Int)).f3) + mny (rd_T36 r (i : Int)) (rd_T36 r (p : Int)).f3) = balR (r.take (i + 1)) (rd_T36 r (p : Int)).f3 (rd (opnL a.f0 a.f1 a.f2 a.f3 4) (rd_T36 r (p : Int)).f3) := by
      rw [tb, htn]
      exact wI64 _ ⟨by omega, by omega⟩
    have e2 : wrap64 (((i : Nat) : Int) + 1) = ((i + 1 : Nat) : Int) := next64 hlt (by unfold maxLen; omega)
    simp only [e1, e2]
    clear e1 e2
    cases pays with
    | true =>
      simp only [if_true]
      exact ih0 _ true (fun h => by cases h)
    | false =>
      simp only [Bool.false_eq_true, if_false]
      exact ih0 _ _ (fun h => hks rfl (of_decide_eq_false h))

theorem kept_true (r : List S36) (p b0 b1 b2 b3 : Int) : Ev (fun k => insolvencylaw27_UndervalueKept.j0 k r p true b0 b1 b2 b3) true := by
  refine Ev.step (fun k => by simp only [insolvencylaw27_UndervalueKept.j0]; rfl) ?_
  simp only [if_true]
  exact Ev.bind tr_awake (Ev.now _)
theorem UndervalueKept : TUndervalueKept.Pure := by
  intro l0 a1 a2 h0 h1 h2
  refine Ev.rounds ?_
  unfold insolvencylaw27_UndervalueKept.f
  obtain ⟨r, day, hr, hb⟩ := rows_built 4 16 (by decide) (by decide) (by decide) l0 h0
  have hf := fine_of hb (by decide)
  have hlen := hf.len
  obtain ⟨p, hp, hp2⟩ := tr_pay r (by omega) a2 (by unfold ok5 at h2; omega)
  refine Ev.bind hr (Ev.bind hp ?_)
  by_cases hn : r = []
  · subst hn
    simp only [List.length_nil]
    exact kept_true _ _ _ _ _ _
  · obtain ⟨p0, p1⟩ := hp2 hn
    have c0 : ¬ ((r.length : Nat) : Int) = 0 := by omega
    simp only [c0, if_false, p0, p1, if_true]
    by_cases hk : (rd_T36 r p).f1 = 1
    · have c1 : ((rd_T36 r p).f1 != 1) = false := by rw [hk]; rfl
      simp only [c1]
      obtain ⟨p, rfl⟩ := Int.eq_ofNat_of_zero_le p0
      have hpl : p < r.length := by omega
      have hpm := rdT_mem r (p : Int) (by omega) (by omega)
      obtain ⟨_, h4p, _, _, q3, q3', _⟩ := goodRow_of (hf.good _ hpm)
      have hor := opnL_bd a1
      have hin : ∀ x ∈ opnL a1.f0 a1.f1 a1.f2 a1.f3 4, inRange x := fun x hx => by have := hor x hx; unfold inRange; omega
      obtain ⟨tn, htn⟩ := Int.eq_ofNat_of_zero_le q3
      have htn4 : tn < 4 := by omega
      have hob := hor _ (rd_mem (opnL a1.f0 a1.f1 a1.f2 a1.f3 4) tn (by rw [opn_len]; exact htn4))
      have hfb := fold_bal 4 (by decide) r (by omega) (p : Int) hf.good hf.small hk _ (opn_len a1.f0 a1.f1 a1.f2 a1.f3) hin p (by omega)
      have hfb1 := (fold_bal 4 (by decide) r (by omega) (p : Int) hf.good hf.small hk _ (opn_len a1.f0 a1.f1 a1.f2 a1.f3) hin (p + 1) (by omega)).2 tn htn4
      rw [foldF_succ] at hfb1
      have hat := kept_at r p (hf.good _ hpm) hk _ _ _ hfb.1
      have loop := kept_loop r hf p hpl hk a1 h1 (r.length - (p + 1)) (p + 1) (balR (r.take (p + 1)) (rd_T36 r (p : Int)).f3 (rd (opnL a1.f0 a1.f1 a1.f2 a1.f3 4) (rd_T36 r (p : Int)).f3)) false rfl (by omega) (by omega) (fun _ => by
        rw [foldF_succ]
        rw [htn] at hat ⊢
        rw [← hfb1]
        exact hat)
      have hbe := bal_ev (r.take (p + 1)) (by rw [List.length_take]; omega) (small_take hf.small _) (rd_T36 r (p : Int)).f3 (rd (opnL a1.f0 a1.f1 a1.f2 a1.f3 4) (rd_T36 r (p : Int)).f3) (by rw [htn]; omega) (by rw [htn]; omega)
      refine Ev.step (fun k => by simp only [insolvencylaw27_UndervalueKept.j0]; rfl) ?_
      have e1 : wrap64 ((p : Int) + 1) = ((p + 1 : Nat) : Int) := next64 hpl (by unfold maxLen; omega)
      have d1 : (0 : Int) ≤ ((p + 1 : Nat) : Int) := by omega
      have d2 : ((p + 1 : Nat) : Int) ≤ ((r.length : Nat) : Int) := by omega
      simp only [Bool.false_eq_true, if_false, p0, p1, if_true, e1, d1, d2]
      refine Ev.bind (tr_open a1 h1) ?_
      have d3 : (rd_T36 r (p : Int)).f3 < (((opnL a1.f0 a1.f1 a1.f2 a1.f3 4).length : Nat) : Int) := by rw [opn_len]; exact q3'
      simp only [q3, d3, if_true, Int.toNat_natCast]
      exact Ev.bind hbe loop
    · have c1 : ((rd_T36 r p).f1 != 1) = true := bne_iff_ne.mpr hk
      simp only [c1]
      exact kept_true _ _ _ _ _ _
end Go.Proofs.Ytljenpakncmlkaa.Pure
