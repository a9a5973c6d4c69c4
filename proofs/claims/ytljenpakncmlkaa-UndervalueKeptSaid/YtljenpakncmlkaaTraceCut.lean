/- The definition's cutting loop is the tracer's clip. -/
import Derived.Test.YtljenpakncmlkaaTracerTrace
import Derived.Test.YtljenpakncmlkaaHistChk
import Derived.Test.YtljenpakncmlkaaPAllx7
namespace Go.Proofs.Ytljenpakncmlkaa.TrEq
open Go.RowKit Go.Proofs.YtljenpakncmlkaaW.PrintWords Go.Proofs.YtljenpakncmlkaaW.PrintMore Go.Proofs.Ytljenpakncmlkaa.PAll Go.Proofs.Ytljenpakncmlkaa.LRows Go.Proofs.Ytljenpakncmlkaa.Tr

/-- A number far from the edges. -/
def Mid (x : Int) : Prop := -4611686018427387904 ≤ x ∧ x ≤ 4611686018427387904
def I64 (x : Int) : Prop := -9223372036854775808 ≤ x ∧ x < 9223372036854775808
theorem wI64 (x : Int) (h : I64 x) : wrap64 x = x := w64 h.1 (by have := h.2; omega)
theorem wrap_I64 (x : Int) : I64 (wrap64 x) := by
  unfold I64 wrap64
  omega
theorem rd_nat (l : List Int) (i : Nat) : rd l (i : Int) = l.getD i 0 := by unfold rd; rw [Int.toNat_natCast]
theorem set_self (l : List Int) (i : Nat) (h : i < l.length) : l.set i (rd l (i : Int)) = l := by
  rw [rd_nat, List.getD_eq_getElem?_getD, List.getElem?_eq_getElem h]
  exact List.set_getElem_self h
theorem rd_set_same (l : List Int) (i : Nat) (x : Int) (h : i < l.length) : rd (l.set i x) (i : Int) = x := by
  rw [rd_nat, List.getD_eq_getElem?_getD, List.getElem?_set_self h]; rfl
theorem rd_set_other (l : List Int) (i j : Nat) (x : Int) (h : i ≠ j) : rd (l.set i x) (j : Int) = rd l (j : Int) := by
  rw [rd_nat, rd_nat, List.getD_eq_getElem?_getD, List.getD_eq_getElem?_getD, List.getElem?_set_ne h]

/-- One party, as the definition tells it. -/
def rStep (bal : List Int) (s : List Int × Int) (i : Nat) : List Int × Int :=
  (s.1.set i (wrap64 (rd s.1 (i : Int) - mx (wrap64 (rd s.1 (i : Int) - mx (rd bal (i : Int)) 0)) 0)), wrap64 (s.2 + mx (wrap64 (rd s.1 (i : Int) - mx (rd bal (i : Int)) 0)) 0))
theorem rStep_eq (bal : List Int) (s : List Int × Int) (i : Nat) (hi : i < s.1.length) (hb : Mid (rd bal (i : Int))) (h0 : 0 ≤ rd s.1 (i : Int)) (h1 : Mid (rd s.1 (i : Int))) (hl : I64 s.2) : rStep bal s i = clipStep bal s i := by
  obtain ⟨t, l⟩ := s
  simp only at hi h0 h1 hl
  unfold rStep clipStep
  simp only
  have hm : 0 ≤ mx (rd bal (i : Int)) 0 ∧ mx (rd bal (i : Int)) 0 ≤ 4611686018427387904 := by
    have h2 := hb.2
    unfold mx
    split <;> omega
  have hs := set_self t i hi
  generalize mx (rd bal (i : Int)) 0 = m at *
  generalize hx : rd t (i : Int) = x at *
  have hw : wrap64 (x - m) = x - m := wI64 _ ⟨by have := h1.1; omega, by have := h1.2; omega⟩
  rw [hw]
  by_cases hc : m < x
  · rw [if_pos hc]
    have e1 : mx (x - m) 0 = x - m := by unfold mx; split <;> omega
    rw [e1, wI64 (x - (x - m)) ⟨by have := hm.1; omega, by have := hm.2; omega⟩]
    have e2 : x - (x - m) = m := by omega
    rw [e2]
  · rw [if_neg hc]
    have e1 : mx (x - m) 0 = 0 := by unfold mx; split <;> omega
    rw [e1, Int.sub_zero, Int.add_zero, wI64 x ⟨by omega, by have := h1.2; omega⟩, wI64 l hl, hs]

theorem rStep_len (bal : List Int) (s : List Int × Int) (i : Nat) : (rStep bal s i).1.length = s.1.length := by unfold rStep; simp
/-- The loop is the fold of the steps. -/
theorem clip_loop (l : List S36) (a2 : Int) (bal : List Int) (hn : bal.length ≤ 1000000) (x : Int) (d : Nat) : ∀ (k : Nat) (tr : List Int) (lost : Int) (i : Nat), tr.length = bal.length → bal.length - i = d → i ≤ bal.length →
    insolvencyref25_Trace.l1 (k + d + 1) l a2 bal tr lost x (i : Int) = insolvencyref25_Trace.l0 k l a2 bal ((List.range' i d).foldl (rStep bal) (tr, lost)).1 ((List.range' i d).foldl (rStep bal) (tr, lost)).2 (wrap64 (x + 1)) := by
  induction d with
  | zero =>
    intro k tr lost i ht hd hi
    have hge : ¬ (i : Int) < (tr.length : Int) := by omega
    rw [insolvencyref25_Trace.l1, if_neg hge]
    rfl
  | succ d ih =>
    intro k tr lost i ht hd hi
    have c1 : (i : Int) < (tr.length : Int) := by omega
    have c2 : (0 : Int) ≤ (i : Int) := by omega
    have c3 : (i : Int) < (bal.length : Int) := by omega
    have hlt : i < bal.length := by omega
    have ih1 := ih k (rStep bal (tr, lost) i).1 (rStep bal (tr, lost) i).2 (i + 1) (by rw [rStep_len]; exact ht) (by omega) (by omega)
    rw [show k + (d + 1) + 1 = (k + d + 1) + 1 by omega, insolvencyref25_Trace.l1, if_pos c1, if_pos c2, if_pos c3, next64 hlt (by unfold maxLen; omega), Int.toNat_natCast, List.range'_succ, List.foldl_cons]
    exact ih1
end Go.Proofs.Ytljenpakncmlkaa.TrEq
/- The two tellings of a row's payment. -/
namespace Go.Proofs.Ytljenpakncmlkaa.TrEq
open Go.RowKit Go.Proofs.YtljenpakncmlkaaW.PrintWords Go.Proofs.YtljenpakncmlkaaW.PrintMore Go.Proofs.Ytljenpakncmlkaa.PAll Go.Proofs.Ytljenpakncmlkaa.LRows Go.Proofs.Ytljenpakncmlkaa.Tr Go.Proofs.Ytljenpakncmlkaa.Hist

def Cents (x : Int) : Prop := 0 ≤ x ∧ x ≤ 1125899906842624
/-- The payer pays, the other gets. -/
def payF (p q f4 : Int) (B : List Int) : List Int := (B.set p.toNat (wrap64 (rd B p - f4))).set q.toNat (wrap64 (rd (B.set p.toNat (wrap64 (rd B p - f4))) q + f4))
theorem wneg (x : Int) (h : Cents x) : wrap64 (-x) = -x := wI64 _ ⟨by have := h.2; omega, by have := h.1; omega⟩
theorem mon_f2 (f2 f3 f4 : Int) (h : f2 ≠ f3) (h4 : Cents f4) : mon 1 f2 f3 f4 f2 = -f4 ∧ mon 1 f2 f3 f4 f3 = f4 ∧ mon 3 f2 f3 f4 f2 = f4 ∧ mon 3 f2 f3 f4 f3 = -f4 ∧ mon 2 f2 f3 f4 f2 = 0 ∧ mon 2 f2 f3 f4 f3 = 0 := by
  have h' : f3 ≠ f2 := Ne.symm h
  have e1 := wneg f4 h4
  have e2 : wrap64 f4 = f4 := wI64 _ ⟨by have := h4.1; omega, by have := h4.2; omega⟩
  have e3 : wrap64 0 = 0 := wI64 0 ⟨by omega, by omega⟩
  unfold mon
  simp [h, h', e1, e2, e3]
theorem mv_one (f2 f3 f4 : Int) (B : List Int) (h : f2 ≠ f3) (h4 : Cents f4) : mvF 1 f2 f3 f4 B 2 = payF f2 f3 f4 B := by
  obtain ⟨m1, m2, _⟩ := mon_f2 f2 f3 f4 h h4
  unfold mvF mv1 payF
  rw [m1, m2]
  rfl
theorem toNat_ne {p q : Int} (hp : 0 ≤ p) (hq : 0 ≤ q) (h : p ≠ q) : p.toNat ≠ q.toNat := by omega
theorem mv_three (f2 f3 f4 : Int) (B : List Int) (h : f2 ≠ f3) (h2 : 0 ≤ f2) (h3 : 0 ≤ f3) (h4 : Cents f4) : mvF 3 f2 f3 f4 B 2 = payF f3 f2 f4 B := by
  obtain ⟨_, _, m3, m4, _⟩ := mon_f2 f2 f3 f4 h h4
  have hn := toNat_ne h2 h3 h
  unfold mvF mv1 payF
  rw [m3, m4, rd_set_ne B f2 f3 _ hn, rd_set_ne B f3 f2 _ (Ne.symm hn), List.set_comm _ _ hn]
  rfl
theorem set_selfI (l : List Int) (p : Int) (h0 : 0 ≤ p) (h : p < (l.length : Int)) : l.set p.toNat (rd l p) = l := by
  obtain ⟨i, rfl⟩ := Int.eq_ofNat_of_zero_le h0
  rw [Int.toNat_natCast]
  exact set_self l i (by simpa using h)
theorem mv_two (f2 f3 f4 : Int) (B : List Int) (h : f2 ≠ f3) (h2 : 0 ≤ f2) (h2' : f2 < (B.length : Int)) (h3 : 0 ≤ f3) (h3' : f3 < (B.length : Int)) (h4 : Cents f4) (hB : ∀ p : Nat, p < B.length → I64 (rd B (p : Int))) : mvF 2 f2 f3 f4 B 2 = B := by
  obtain ⟨_, _, _, _, m5, m6⟩ := mon_f2 f2 f3 f4 h h4
  have k : ∀ p : Int, 0 ≤ p → p < (B.length : Int) → wrap64 (rd B p) = rd B p := by
    intro p hp hp'
    obtain ⟨i, rfl⟩ := Int.eq_ofNat_of_zero_le hp
    exact wI64 _ (hB i (by simpa using hp'))
  have e : mv1 2 f2 f3 f4 B f2 = B := by
    unfold mv1
    rw [m5, Int.add_zero, k f2 h2 h2', set_selfI B f2 h2 h2']
  show mv1 2 f2 f3 f4 (mv1 2 f2 f3 f4 B f2) f3 = B
  rw [e]
  unfold mv1
  rw [m6, Int.add_zero, k f3 h3 h3', set_selfI B f3 h3 h3']
/-- Where nothing is above the balance, nothing is cut. -/
theorem clip_none (B T : List Int) (L : Int) (n : Nat) (h : ∀ p : Nat, p < n → rd T (p : Int) ≤ mx (rd B (p : Int)) 0) : clipF B T L n = (T, L) := by
  induction n with
  | zero => rfl
  | succ n ih =>
    rw [clipF_succ, ih (fun p hp => h p (by omega))]
    unfold clipStep
    simp only
    rw [if_neg (by have := h n (by omega); omega)]
end Go.Proofs.Ytljenpakncmlkaa.TrEq
/- One row of the definition's loop. -/
namespace Go.Proofs.Ytljenpakncmlkaa.TrEq
open Go.RowKit Go.Proofs.YtljenpakncmlkaaW.PrintWords Go.Proofs.YtljenpakncmlkaaW.PrintMore Go.Proofs.Ytljenpakncmlkaa.PAll Go.Proofs.Ytljenpakncmlkaa.LRows Go.Proofs.Ytljenpakncmlkaa.Tr Go.Proofs.Ytljenpakncmlkaa.Hist

def tk (p f4 : Int) (B T : List Int) : Int := mn (mx (wrap64 (f4 - wrap64 (mx (rd B p) 0 - rd T p))) 0) (rd T p)
/-- What the definition's row spends. -/
def rSp (one : Bool) (p q f4 : Int) (B T : List Int) (L : Int) : List Int × Int :=
  if one then ((T.set p.toNat (wrap64 (rd T p - tk p f4 B T))).set q.toNat (wrap64 (rd (T.set p.toNat (wrap64 (rd T p - tk p f4 B T))) q + tk p f4 B T)), L)
  else (T.set p.toNat (wrap64 (rd T p - tk p f4 B T)), wrap64 (L + tk p f4 B T))
def rPay (a2 i : Int) (one : Bool) (p q f4 : Int) (B T : List Int) (L : Int) : List Int × Int := if i = a2 then (T.set q.toNat f4, L) else rSp one p q f4 B T L
def rCut (B : List Int) (s : List Int × Int) : List Int × Int := (List.range' 0 B.length).foldl (rStep B) s

theorem ref_two (k : Nat) (l : List S36) (hl : l.length ≤ maxLen) (a2 : Int) (B T : List Int) (L : Int) (i : Nat) (hi : i < l.length) (h2 : (rd_T36 l (i : Int)).f1 = 2) :
    insolvencyref25_Trace.l0 (k + 2) l a2 B T L (i : Int) = insolvencyref25_Trace.l0 k l a2 B T L ((i + 1 : Nat) : Int) := by
  have c1 : (i : Int) < (l.length : Int) := by omega
  have c0 : (0 : Int) ≤ (i : Int) := by omega
  rw [insolvencyref25_Trace.l0, if_pos c1, if_pos c0, h2, if_neg (by decide), insolvencyref25_Trace.j1, if_pos rfl, next64 hi hl]

theorem ref_j2 (k : Nat) (l : List S36) (hl : l.length ≤ maxLen) (a2 : Int) (B T : List Int) (hn : B.length ≤ 1000000) (ht : T.length = B.length) (L : Int) (i : Nat) (hi : i < l.length) (p q : Int) (p0 : 0 ≤ p) (p1 : p < (B.length : Int)) (q0 : 0 ≤ q) (q1 : q < (B.length : Int)) (y0 y1 y2 y3 y4 y5 : Int) :
    insolvencyref25_Trace.j2 (k + B.length + 2) l a2 B T L (i : Int) p q y0 y1 y2 y3 y4 y5 = insolvencyref25_Trace.l0 k l a2 (payF p q y4 B) (rCut (payF p q y4 B) (T, L)).1 (rCut (payF p q y4 B) (T, L)).2 ((i + 1 : Nat) : Int) := by
  have hlen : (payF p q y4 B).length = B.length := by unfold payF; simp
  have h1 := clip_loop l a2 (payF p q y4 B) (by omega) (i : Int) B.length k T L 0 (by omega) (by omega) (by omega)
  rw [next64 hi hl] at h1
  rw [show k + B.length + 2 = (k + B.length + 1) + 1 by omega, insolvencyref25_Trace.j2, if_pos p0, if_pos p1, Option.bind_some, if_pos q0, if_pos q1]
  unfold rCut
  rw [hlen]
  exact h1

theorem ref_row (k : Nat) (l : List S36) (hl : l.length ≤ maxLen) (a2 : Int) (B T : List Int) (hn : B.length ≤ 1000000) (ht : T.length = B.length) (L : Int) (i : Nat) (hi : i < l.length) (one : Bool) (p q : Int)
    (hone : (one = true ∧ (rd_T36 l (i : Int)).f1 = 1 ∧ p = (rd_T36 l (i : Int)).f2 ∧ q = (rd_T36 l (i : Int)).f3) ∨ (one = false ∧ (rd_T36 l (i : Int)).f1 = 3 ∧ p = (rd_T36 l (i : Int)).f3 ∧ q = (rd_T36 l (i : Int)).f2))
    (p0 : 0 ≤ p) (p1 : p < (B.length : Int)) (q0 : 0 ≤ q) (q1 : q < (B.length : Int)) :
    insolvencyref25_Trace.l0 (k + B.length + 4) l a2 B T L (i : Int) = insolvencyref25_Trace.l0 k l a2 (payF p q (rd_T36 l (i : Int)).f4 B) (rCut (payF p q (rd_T36 l (i : Int)).f4 B) (rPay a2 i one p q (rd_T36 l (i : Int)).f4 B T L)).1 (rCut (payF p q (rd_T36 l (i : Int)).f4 B) (rPay a2 i one p q (rd_T36 l (i : Int)).f4 B T L)).2 ((i + 1 : Nat) : Int) := by
  have c1 : (i : Int) < (l.length : Int) := by omega
  have c0 : (0 : Int) ≤ (i : Int) := by omega
  have q2 : q < (T.length : Int) := by rw [ht]; exact q1
  have p2 : p < (T.length : Int) := by rw [ht]; exact p1
  rw [show k + B.length + 4 = (k + B.length + 2) + 1 + 1 by omega, insolvencyref25_Trace.l0, if_pos c1, if_pos c0]
  generalize rd_T36 l (i : Int) = r at *
  obtain ⟨f0, f1, f2, f3, f4, f5⟩ := r
  simp only at hone ⊢
  have key : insolvencyref25_Trace.j1 (k + B.length + 2 + 1) l a2 B T L (i : Int) p q f0 f1 f2 f3 f4 f5 = insolvencyref25_Trace.l0 k l a2 (payF p q f4 B) (rCut (payF p q f4 B) (rPay a2 i one p q f4 B T L)).1 (rCut (payF p q f4 B) (rPay a2 i one p q f4 B T L)).2 ((i + 1 : Nat) : Int) := by
    rw [insolvencyref25_Trace.j1]
    have n2 : ¬ f1 = 2 := by rcases hone with ⟨_, e, _⟩ | ⟨_, e, _⟩ <;> omega
    rw [if_neg n2]
    unfold rPay
    by_cases ha : (i : Int) = a2
    · rw [if_pos ha, if_pos ha, if_pos q0, if_pos q2]
      exact ref_j2 k l hl a2 B _ hn (by rw [List.length_set]; exact ht) L i hi p q p0 p1 q0 q1 _ _ _ _ _ _
    · rw [if_neg ha, if_neg ha, if_pos p0, if_pos p1, if_pos p2, Option.bind_some]
      unfold rSp tk
      rcases hone with ⟨rfl, e, _, _⟩ | ⟨rfl, e, _, _⟩
      · have q3 : q < ((T.set p.toNat (wrap64 (rd T p - mn (mx (wrap64 (f4 - wrap64 (mx (rd B p) 0 - rd T p))) 0) (rd T p)))).length : Int) := by rw [List.length_set]; exact q2
        rw [if_pos e, if_pos q0, if_pos q2, if_pos rfl]
        exact ref_j2 k l hl a2 B _ hn (by rw [List.length_set, List.length_set]; exact ht) L i hi p q p0 p1 q0 q1 _ _ _ _ _ _
      · rw [if_neg (by omega), if_neg (by decide)]
        exact ref_j2 k l hl a2 B _ hn (by rw [List.length_set]; exact ht) _ i hi p q p0 p1 q0 q1 _ _ _ _ _ _
  rcases hone with ⟨_, e, rfl, rfl⟩ | ⟨_, e, rfl, rfl⟩
  · rw [if_neg (by omega)]
    exact key
  · rw [if_pos e]
    exact key
end Go.Proofs.Ytljenpakncmlkaa.TrEq
/- The cut of the definition is the tracer's clip, and what it leaves. -/
namespace Go.Proofs.Ytljenpakncmlkaa.TrEq
open Go.RowKit Go.Proofs.YtljenpakncmlkaaW.PrintWords Go.Proofs.YtljenpakncmlkaaW.PrintMore Go.Proofs.Ytljenpakncmlkaa.PAll Go.Proofs.Ytljenpakncmlkaa.LRows Go.Proofs.Ytljenpakncmlkaa.Tr Go.Proofs.Ytljenpakncmlkaa.Hist

theorem mx0 (x : Int) : 0 ≤ mx x 0 := by unfold mx; split <;> omega
theorem clip_inv (B T : List Int) (L : Int) (hL : I64 L) (h0 : ∀ p : Nat, p < T.length → 0 ≤ rd T (p : Int)) (m : Nat) (hm : m ≤ T.length) :
    (clipF B T L m).1.length = T.length ∧ I64 (clipF B T L m).2 ∧ (∀ p : Nat, m ≤ p → rd (clipF B T L m).1 (p : Int) = rd T (p : Int)) ∧ (∀ p : Nat, p < m → 0 ≤ rd (clipF B T L m).1 (p : Int) ∧ rd (clipF B T L m).1 (p : Int) ≤ mx (rd B (p : Int)) 0) := by
  induction m with
  | zero => exact ⟨rfl, hL, fun _ _ => rfl, fun p hp => absurd hp (Nat.not_lt_zero _)⟩
  | succ m ih =>
    obtain ⟨i1, i2, i3, i4⟩ := ih (by omega)
    rw [clipF_succ]
    generalize clipF B T L m = s at *
    have hs : rd s.1 (m : Int) = rd T (m : Int) := i3 m (Nat.le_refl _)
    have hlt : m < s.1.length := by omega
    unfold clipStep
    split
    · rename_i hc
      refine ⟨by rw [List.length_set]; exact i1, wrap_I64 _, fun p hp => ?_, fun p hp => ?_⟩
      · rw [rd_set_other _ _ _ _ (by omega)]; exact i3 p (by omega)
      · by_cases hpm : p = m
        · subst hpm
          rw [rd_set_same _ _ _ hlt]
          exact ⟨mx0 _, Int.le_refl _⟩
        · rw [rd_set_other _ _ _ _ (Ne.symm hpm)]; exact i4 p (by omega)
    · rename_i hc
      refine ⟨i1, i2, fun p hp => i3 p (by omega), fun p hp => ?_⟩
      by_cases hpm : p = m
      · subst hpm
        exact ⟨by rw [hs]; exact h0 p (by omega), Int.not_lt.mp hc⟩
      · exact i4 p (by omega)
theorem cut_eq (B T : List Int) (L : Int) (ht : T.length = B.length) (hL : I64 L) (hB : ∀ p : Nat, p < B.length → Mid (rd B (p : Int))) (h0 : ∀ p : Nat, p < T.length → 0 ≤ rd T (p : Int) ∧ Mid (rd T (p : Int))) : rCut B (T, L) = clipF B T L B.length := by
  unfold rCut
  have key : ∀ m, m ≤ B.length → (List.range' 0 m).foldl (rStep B) (T, L) = clipF B T L m := by
    intro m
    induction m with
    | zero => intro _; rfl
    | succ m ih =>
      intro hm
      rw [List.range'_concat, List.foldl_append, ih (by omega), clipF_succ]
      simp only [Nat.zero_add, Nat.one_mul, List.foldl_cons, List.foldl_nil]
      obtain ⟨i1, i2, i3, _⟩ := clip_inv B T L hL (fun p hp => (h0 p hp).1) m (by omega)
      have e := i3 m (Nat.le_refl _)
      exact rStep_eq B _ m (by omega) (hB m (by omega)) (by rw [e]; exact (h0 m (by omega)).1) (by rw [e]; exact (h0 m (by omega)).2) i2
  exact key _ (Nat.le_refl _)
end Go.Proofs.Ytljenpakncmlkaa.TrEq
