/- A party's balance over rows, as the definition counts it. -/
import Derived.Test.YtljenpakncmlkaaTraceLen
import Derived.Test.YtljenpakncmlkaaPAllx9
namespace Go.Proofs.Ytljenpakncmlkaa.TrEq
open Go.RowKit Go.Proofs.YtljenpakncmlkaaW.PrintWords Go.Proofs.YtljenpakncmlkaaW.PrintMore Go.Proofs.Ytljenpakncmlkaa.PAll Go.Proofs.Ytljenpakncmlkaa.LRows Go.Proofs.Ytljenpakncmlkaa.Tr Go.Proofs.Ytljenpakncmlkaa.Hist

/-- What a row moves for a party. -/
def mny (r : S36) (p : Int) : Int :=
  if r.f1 = 1 then (if r.f2 = p then -r.f4 else if r.f3 = p then r.f4 else 0)
  else if r.f1 = 3 then (if r.f2 = p then r.f4 else if r.f3 = p then -r.f4 else 0) else 0
theorem mny_one (r : S36) (e : r.f1 = 1) (p : Int) : mny r p = if r.f2 = p then -r.f4 else if r.f3 = p then r.f4 else 0 := by unfold mny; rw [if_pos e]
theorem mny_two (r : S36) (e : r.f1 = 2) (p : Int) : mny r p = 0 := by
  have n1 : ¬ r.f1 = 1 := by omega
  have n3 : ¬ r.f1 = 3 := by omega
  unfold mny; rw [if_neg n1, if_neg n3]
theorem mny_three (r : S36) (e : r.f1 = 3) (p : Int) : mny r p = if r.f2 = p then r.f4 else if r.f3 = p then -r.f4 else 0 := by
  have n1 : ¬ r.f1 = 1 := by omega
  unfold mny; rw [if_neg n1, if_pos e]
/-- A small row. -/
def Small (r : S36) : Prop := (r.f1 = 1 ∨ r.f1 = 2 ∨ r.f1 = 3) ∧ 0 ≤ r.f4 ∧ r.f4 < 40 ∧ r.f2 ≠ r.f3 ∧ r.f0 ≤ 1048576
theorem mny_bd (r : S36) (h : Small r) (p : Int) : -40 < mny r p ∧ mny r p < 40 := by
  obtain ⟨_, h0, h1, _⟩ := h
  unfold mny
  split
  · split
    · omega
    · split <;> omega
  · split
    · split
      · omega
      · split <;> omega
    · omega
theorem money_eq (k : Nat) (r : S36) (h : Small r) (p : Int) : insolvencyref25_Money.f (k + 1) r.f0 r.f1 r.f2 r.f3 r.f4 r.f5 p = some (mny r p) := by
  obtain ⟨hk, h0, h1, h2, _⟩ := h
  have e1 : wrap64 (-r.f4) = -r.f4 := wI64 _ ⟨by omega, by omega⟩
  have e2 : wrap64 (0 + -r.f4) = -r.f4 := wI64 (0 + -r.f4) ⟨by omega, by omega⟩ |>.trans (by omega)
  have e3 : wrap64 (0 + r.f4) = r.f4 := wI64 (0 + r.f4) ⟨by omega, by omega⟩ |>.trans (by omega)
  have e4 : wrap64 (- -r.f4) = r.f4 := wI64 (- -r.f4) ⟨by omega, by omega⟩ |>.trans (by omega)
  have e5 : wrap64 (0 + 0) = 0 := by kernel_rfl
  have e6 : wrap64 (-0) = 0 := by kernel_rfl
  unfold insolvencyref25_Money.f mny
  simp only [insolvencyref25_Money.j0, e1, e2, e3, e4, e5, e6]
  clear e1 e2 e3 e4 e5 e6
  have hne : ¬ (r.f2 = p ∧ r.f3 = p) := fun h => h2 (h.1.trans h.2.symm)
  rcases hk with e | e | e
  · rw [if_pos e, if_pos e]
    by_cases c1 : r.f2 = p
    · rw [if_pos c1, if_pos c1, if_neg (fun h => hne ⟨c1, h⟩)]
    · rw [if_neg c1, if_neg c1]
      split <;> rfl
  · have n1 : ¬ r.f1 = 1 := by omega
    have n3 : ¬ r.f1 = 3 := by omega
    simp only [n1, n3, if_false]
    by_cases c1 : r.f2 = p
    · rw [if_pos c1, if_neg (fun h => hne ⟨c1, h⟩)]
    · rw [if_neg c1]
      split <;> rfl
  · have n1 : ¬ r.f1 = 1 := by omega
    rw [if_neg n1, if_pos e, if_neg n1, if_pos e]
    by_cases c1 : r.f2 = p
    · rw [if_pos c1, if_pos c1, if_neg (fun h => hne ⟨c1, h⟩)]
    · rw [if_neg c1, if_neg c1]
      split <;> rfl
def balR (l : List S36) (p o : Int) : Int := l.foldl (fun s r => s + mny r p) o
theorem balR_bd (l : List S36) (hs : ∀ r ∈ l, Small r) (p : Int) : ∀ o : Int, o - 40 * (l.length : Int) ≤ balR l p o ∧ balR l p o ≤ o + 40 * (l.length : Int) := by
  induction l with
  | nil => intro o; simp [balR]
  | cons r l ih =>
    intro o
    have h1 := ih (fun x hx => hs x (List.mem_cons_of_mem _ hx)) (o + mny r p)
    obtain ⟨h2, h3⟩ := mny_bd r (hs r List.mem_cons_self) p
    have e : balR (r :: l) p o = balR l p (o + mny r p) := rfl
    rw [e, List.length_cons]
    omega
theorem bal_loop (l : List S36) (hl : l.length ≤ 1000) (hs : ∀ r ∈ l, Small r) (p : Int) (d : Nat) : ∀ (k i : Nat) (o : Int), l.length - i = d → i ≤ l.length → -100 - 40 * (i : Int) ≤ o → o ≤ 100 + 40 * (i : Int) →
    insolvencyref25_Balance.l0 (k + d + 2) l p o 1048576 (i : Int) = some (balR (l.drop i) p o) := by
  induction d with
  | zero =>
    intro k i o hd hi _ _
    rw [insolvencyref25_Balance.l0, if_neg (by omega), List.drop_eq_nil_of_le (by omega)]
    rfl
  | succ d ih =>
    intro k i o hd hi o1 o2
    have hlt : i < l.length := by omega
    have hr : Small (rd_T36 l (i : Int)) := hs _ (rdT_mem l i (by omega) (by omega))
    obtain ⟨m1, m2⟩ := mny_bd _ hr p
    have e1 : wrap64 (o + mny (rd_T36 l (i : Int)) p) = o + mny (rd_T36 l (i : Int)) p := wI64 _ ⟨by omega, by omega⟩
    rw [drop_at' l i hlt, show k + (d + 1) + 2 = (k + d + 2) + 1 by omega, insolvencyref25_Balance.l0, if_pos (by omega), if_pos (by omega), if_pos hr.2.2.2.2, money_eq (k + d + 1) _ hr p, Option.bind_some, e1, next64 hlt (by unfold maxLen; omega)]
    clear e1
    exact ih k (i + 1) _ (by omega) (by omega) (by omega) (by omega)
theorem bal_ev (l : List S36) (hl : l.length ≤ 1000) (hs : ∀ r ∈ l, Small r) (p o : Int) (h1 : -100 ≤ o) (h2 : o ≤ 100) : Ev (fun k => insolvencyref25_Balance.f k l p o 1048576) (balR l p o) := by
  refine Ev.of (fun k => insolvencyref25_Balance.mono _ _ _ _ k) (k := 0 + l.length + 2) ?_
  unfold insolvencyref25_Balance.f
  have := bal_loop l hl hs p l.length 0 0 o rfl (Nat.zero_le _) (by omega) (by omega)
  rwa [List.drop_zero] at this
/-- The tracer's balances after one row. -/
theorem rd_payF (n : Nat) (p q f4 X : Int) (B : List Int) (hb : B.length = n) (p0 : 0 ≤ p) (p1 : p < n) (q0 : 0 ≤ q) (q1 : q < n) (hpq : p ≠ q) (h4 : 0 ≤ f4 ∧ f4 < 40) (hX : X ≤ 4611686018427387904)
    (h : ∀ m : Nat, m < n → -X ≤ rd B (m : Int) ∧ rd B (m : Int) ≤ X) (m : Nat) (hm : m < n) : rd (payF p q f4 B) (m : Int) = if p = (m : Int) then rd B (m : Int) - f4 else if q = (m : Int) then rd B (m : Int) + f4 else rd B (m : Int) := by
  obtain ⟨p, rfl⟩ := Int.eq_ofNat_of_zero_le p0
  obtain ⟨q, rfl⟩ := Int.eq_ofNat_of_zero_le q0
  have hp' : p < n := by omega
  have hq' : q < n := by omega
  have hne : p ≠ q := by omega
  unfold payF
  rw [Int.toNat_natCast, Int.toNat_natCast, rd_set_other B p q _ hne]
  obtain ⟨b1, b3⟩ := h p hp'
  obtain ⟨c1, c3⟩ := h q hq'
  have e1 : wrap64 (rd B (p : Int) - f4) = rd B (p : Int) - f4 := wI64 _ ⟨by omega, by omega⟩
  have e2 : wrap64 (rd B (q : Int) + f4) = rd B (q : Int) + f4 := wI64 _ ⟨by omega, by omega⟩
  rw [e1, e2]
  clear e1 e2
  by_cases hmq : q = m
  · subst hmq
    rw [rd_set_same _ _ _ (by rw [List.length_set]; omega), if_neg (by omega), if_pos rfl]
  · rw [rd_set_other _ _ _ _ hmq]
    by_cases hmp : p = m
    · subst hmp
      rw [rd_set_same _ _ _ (by omega), if_pos rfl]
    · rw [rd_set_other _ _ _ _ hmp, if_neg (by omega), if_neg (by omega)]
theorem small_cents {r : S36} (h : Small r) : Cents r.f4 := by
  obtain ⟨_, h0, h1, _⟩ := h
  exact ⟨h0, by omega⟩
theorem step_bal (n : Nat) (l : List S36) (a2 : Int) (i : Nat) (hi : i ≤ 255) (hg : goodRow n (rd_T36 l (i : Int))) (hs : Small (rd_T36 l (i : Int))) (hat : (i : Int) = a2 → (rd_T36 l (i : Int)).f1 = 1) (B T : List Int) (L : Int) (inv : Inv n a2 i B T L) (m : Nat) (hm : m < n) :
    rd (stepF n a2 l (B, T, L) i).1 (m : Int) = rd B (m : Int) + mny (rd_T36 l (i : Int)) (m : Int) := by
  obtain ⟨hk, h4, g2, g2', g3, g3', g5⟩ := goodRow_of hg
  have hb : ∀ m : Nat, m < n → -(1125899906842624 * 256) ≤ rd B (m : Int) ∧ rd B (m : Int) ≤ 1125899906842624 * 256 := fun m hm => by
    obtain ⟨c1, c2⟩ := inv.bal m hm
    omega
  unfold stepF
  rcases hk with e | e | e
  · rw [mny_one _ e, e, row_one n a2 i _ _ _ B T L g2 g3 g5 h4]
    rw [rd_payF n _ _ _ _ B inv.lb g2 g2' g3 g3' g5 ⟨hs.2.1, hs.2.2.1⟩ (by decide) hb m hm]
    split
    · rfl
    · split
      · rfl
      · omega
  · have hne : (i : Int) ≠ a2 := fun h => by have := hat h; omega
    rw [mny_two _ e, e, row_two n i a2 _ _ _ B T L inv (by omega) g2 g2' g3 g3' g5 h4 hne]
    exact (Int.add_zero _).symm
  · have hne : (i : Int) ≠ a2 := fun h => by have := hat h; omega
    rw [mny_three _ e, e, row_three n a2 i _ _ _ B T L g2 g3 g5 h4 hne]
    rw [rd_payF n _ _ _ _ B inv.lb g3 g3' g2 g2' (Ne.symm g5) ⟨hs.2.1, hs.2.2.1⟩ (by decide) hb m hm]
    by_cases c1 : (rd_T36 l (i : Int)).f2 = (m : Int)
    · rw [if_neg (show ¬ (rd_T36 l (i : Int)).f3 = (m : Int) from fun h => g5 (c1.trans h.symm)), if_pos c1, if_pos c1]
    · rw [if_neg c1, if_neg c1]
      split <;> omega
/-- The fold's balances are the definition's. -/
theorem fold_bal (n : Nat) (hn : n ≤ 1000000) (l : List S36) (hl : l.length ≤ 256) (a2 : Int) (hg : ∀ r ∈ l, goodRow n r) (hs : ∀ r ∈ l, Small r) (hat : (rd_T36 l a2).f1 = 1) (l1 : List Int) (h1 : l1.length = n) (ho : ∀ x ∈ l1, inRange x) (m : Nat) (hm : m ≤ l.length) :
    Inv n a2 m (foldF n a2 l l1 m).1 (foldF n a2 l l1 m).2.1 (foldF n a2 l l1 m).2.2 ∧ ∀ p : Nat, p < n → rd (foldF n a2 l l1 m).1 (p : Int) = balR (l.take m) (p : Int) (rd l1 (p : Int)) := by
  induction m with
  | zero =>
    subst h1
    exact ⟨inv_zero l1 a2 ho, fun p hp => rfl⟩
  | succ m ih =>
    obtain ⟨i1, i2⟩ := ih (by omega)
    have hlt : m < l.length := by omega
    have hmem := rdT_mem l m (by omega) (by omega)
    rw [foldF_succ]
    have hst := row_step n hn l hl a2 m hlt (hg _ hmem) (fun h => by rw [h]; exact hat) _ _ _ i1
    refine ⟨hst.1, fun p hp => ?_⟩
    have hb := step_bal n l a2 m (by omega) (hg _ hmem) (hs _ hmem) (fun h => by rw [h]; exact hat) _ _ _ i1 p hp
    have e : stepF n a2 l (foldF n a2 l l1 m) m = stepF n a2 l ((foldF n a2 l l1 m).1, (foldF n a2 l l1 m).2.1, (foldF n a2 l l1 m).2.2) m := rfl
    rw [e, hb, i2 p hp, List.take_succ_eq_append_getElem hlt]
    unfold balR
    rw [List.foldl_append]
    have e2 : l[m] = rd_T36 l (m : Int) := by
      show _ = l.getD (Int.toNat (m : Int)) z36
      rw [Int.toNat_natCast, List.getD_eq_getElem?_getD, List.getElem?_eq_getElem hlt]
      rfl
    rw [e2]
    rfl
end Go.Proofs.Ytljenpakncmlkaa.TrEq
