/- What a built history, its payment and the openings give to the laws of layer 27. -/
import Derived.Test.YtljenpakncmlkaaSumInv
import Derived.Test.YtljenpakncmlkaaLRows
import Derived.Test.YtljenpakncmlkaaTypes
namespace Go.Proofs.Ytljenpakncmlkaa.TrH
open Go.RowKit Go.Proofs.YtljenpakncmlkaaW.PrintWords Go.Proofs.YtljenpakncmlkaaW.PrintMore Go.Proofs.Ytljenpakncmlkaa.PAll Go.Proofs.Ytljenpakncmlkaa.Types Go.Proofs.Ytljenpakncmlkaa.LRows Go.Proofs.Ytljenpakncmlkaa.TrEq Go.Proofs.Ytljenpakncmlkaa.Tr Go.Proofs.Ytljenpakncmlkaa.Hist

theorem tr_awake : Ev (fun k => insolvencylaw27_awake.f k) true := ⟨260, fun k hk => awake_true k hk⟩
theorem opn_len (a b c d : Int) : (opnL a b c d 4).length = 4 := rfl
theorem tr_open (a : S23) (h : ok23 a) : Ev (fun k => insolvencylaw27_openings.f k a.f0 a.f1 a.f2 a.f3) (opnL a.f0 a.f1 a.f2 a.f3 4) := by
  obtain ⟨⟨a0, a1⟩, ⟨b0, b1⟩, ⟨c0, c1⟩, d0, d1⟩ := h
  exact ⟨0, fun k _ => by unfold insolvencylaw27_openings.f; rw [if_pos (by omega)]⟩
theorem opn_bd (a : Int) : -15 ≤ opn a ∧ opn a ≤ 44 := by unfold opn; omega
theorem opnL_bd (a : S23) : ∀ x ∈ opnL a.f0 a.f1 a.f2 a.f3 4, -15 ≤ x ∧ x ≤ 44 := by
  have e0 := opn_bd a.f0
  have e1 := opn_bd a.f1
  have e2 := opn_bd a.f2
  have e3 := opn_bd a.f3
  intro x hx
  have hx' : x ∈ [opn a.f0, opn a.f1, opn a.f2, opn a.f3] := hx
  simp only [List.mem_cons, List.not_mem_nil, or_false] at hx'
  rcases hx' with rfl | rfl | rfl | rfl <;> assumption
theorem pay_loop2 (l : List S36) (hl : l.length ≤ 1000) (x : Int) (hx : 0 ≤ x ∧ x < 256) (d : Nat) : ∀ (k i : Nat), l.length - i = d → i ≤ l.length →
    ∃ r, insolvencylaw27_payment.l0 (k + d + 1) l x (i : Int) = some r ∧ (r = 0 ∨ 0 ≤ r ∧ r < (l.length : Int)) := by
  induction d with
  | zero =>
    intro k i hd hi
    exact ⟨0, by rw [insolvencylaw27_payment.l0, if_neg (by omega)], .inl rfl⟩
  | succ d ih =>
    intro k i hd hi
    have hlt : i < l.length := by omega
    have e1 : wrap64 x = x := wI64 x ⟨by omega, by omega⟩
    have e2 : wrap64 (x + (i : Int)) = x + (i : Int) := wI64 _ ⟨by omega, by omega⟩
    have e3 : Int.tmod (x + (i : Int)) (l.length : Int) = (x + (i : Int)) % (l.length : Int) := Int.tmod_eq_emod_of_nonneg (by omega)
    have e4 : 0 ≤ (x + (i : Int)) % (l.length : Int) := Int.emod_nonneg _ (by omega)
    have e5 : (x + (i : Int)) % (l.length : Int) < (l.length : Int) := Int.emod_lt_of_pos _ (by omega)
    rw [show k + (d + 1) + 1 = (k + d + 1) + 1 by omega, insolvencylaw27_payment.l0, if_pos (by omega), if_neg (by omega), e1, e2, e3, if_pos e4, if_pos e5, next64 hlt (by unfold maxLen; omega)]
    split
    · exact ⟨_, rfl, .inr ⟨e4, e5⟩⟩
    · exact ih k (i + 1) (by omega) (by omega)
theorem tr_pay (l : List S36) (hl : l.length ≤ 1000) (x : Int) (hx : 0 ≤ x ∧ x < 256) : ∃ r, Ev (fun k => insolvencylaw27_payment.f k l x) r ∧ (l ≠ [] → 0 ≤ r ∧ r < (l.length : Int)) := by
  obtain ⟨r, hr, h2⟩ := pay_loop2 l hl x hx l.length 0 0 rfl (Nat.zero_le _)
  refine ⟨r, Ev.of (fun k => insolvencylaw27_payment.mono _ _ k) (k := 0 + l.length + 1) ?_, fun hn => ?_⟩
  · unfold insolvencylaw27_payment.f
    exact hr
  · have : 0 < l.length := List.length_pos_iff.mpr hn
    rcases h2 with h | h
    · omega
    · exact h
theorem chk_built (n : Int) : ∀ (l : List S36) (prev : Int), (∀ x ∈ l, GoodRow n x ∧ x.f0 ≤ 1048576) → l.Pairwise (fun a b => a.f0 ≤ b.f0) → (∀ x ∈ l, prev ≤ x.f0) → chkL n prev l = 0 := by
  intro l
  induction l with
  | nil => intro _ _ _ _; rfl
  | cons r l ih =>
    intro prev hg hp hprev
    obtain ⟨⟨a0, a1, a2, a3, a4, a5, a6, a7, a8, a9, a10, a11, a12⟩, a13⟩ := hg r List.mem_cons_self
    have h1 := hprev r List.mem_cons_self
    have e : rowE n prev r = 0 := by
      have hb : ¬ badRow r := by unfold badRow; omega
      have hc : ¬ badParty n r := by unfold badParty; omega
      unfold rowE
      rw [if_neg hb, if_neg hc, if_neg (by omega)]
    show (if rowE n prev r = 0 then chkL n r.f0 l else rowE n prev r) = 0
    rw [if_pos e]
    rw [List.pairwise_cons] at hp
    exact ih r.f0 (fun x hx => hg x (List.mem_cons_of_mem _ hx)) hp.2 hp.1
structure Fine (r : List S36) : Prop where
  len : r.length ≤ 24
  chk : chkE 4 r = 0
  good : ∀ x ∈ r, goodRow 4 x
  small : ∀ x ∈ r, Small x
theorem fine_of {most day : Int} {r : List S36} (hb : Built 4 most day r) (hm : most ≤ 24) : Fine r := by
  have hl := hb.len
  have hd := hb.day1
  have hc : chkE 4 r = 0 := by
    unfold chkE
    rw [if_neg (by omega)]
    exact chk_built 4 r 0 (fun x hx => ⟨(hb.good x hx).1, by have := (hb.good x hx).2; omega⟩) hb.asc (fun x hx => (hb.good x hx).1.1)
  refine ⟨by omega, hc, (chkE_good 4 r hc).2, fun x hx => ?_⟩
  obtain ⟨⟨a0, a1, a2, a3, a4, a5, a6, a7, a8, a9, a10, a11, a12⟩, a13⟩ := hb.good x hx
  unfold Small
  omega
theorem tr_ev (r : List S36) (o : List Int) (p : Int) (ho : o.length = 4) (hf : Fine r) (t : List Int × Int × Int) (h : ansF r o p 0 = some t) : Ev (fun k => undervalue_Trace.f k r o p) t :=
  ⟨260, fun k hk => by
    have e : ((o.length : Nat) : Int) = 4 := by omega
    have e2 := trace_ans k r o p hk
    rw [e, hf.chk, h] at e2
    exact e2⟩
theorem ans_nil (o : List Int) (p : Int) (ho : o.length = 4) (hr : ∀ x ∈ o, -15 ≤ x ∧ x ≤ 44) : ansF [] o p 0 = some ([], 0, 1) := by
  have h1 : ∀ x ∈ o, inRange x := fun x hx => by have := hr x hx; unfold inRange; omega
  unfold ansF
  rw [if_neg (fun h => h ⟨by omega, by simp⟩), if_neg (fun h => h rfl), if_neg (fun h => h h1), if_pos (by simp only [List.length_nil]; omega)]
theorem ans_other (r : List S36) (hf : Fine r) (o : List Int) (p : Int) (ho : o.length = 4) (hr : ∀ x ∈ o, -15 ≤ x ∧ x ≤ 44) (hp : 0 ≤ p ∧ p < (r.length : Int)) (hk : (rd_T36 r p).f1 ≠ 1) : ansF r o p 0 = some ([], 0, 13) := by
  have h1 : ∀ x ∈ o, inRange x := fun x hx => by have := hr x hx; unfold inRange; omega
  have hl := hf.len
  unfold ansF
  rw [if_neg (fun h => h ⟨by omega, by omega⟩), if_neg (fun h => h rfl), if_neg (fun h => h h1), if_neg (show ¬ (p < 0 ∨ (r.length : Int) ≤ p) by omega), if_pos hk]
theorem ans_good (r : List S36) (hf : Fine r) (o : List Int) (p : Int) (ho : o.length = 4) (hr : ∀ x ∈ o, -15 ≤ x ∧ x ≤ 44) (hp : 0 ≤ p ∧ p < (r.length : Int)) (hk : (rd_T36 r p).f1 = 1) :
    ansF r o p 0 = some ((foldF 4 p r o r.length).2.1, (foldF 4 p r o r.length).2.2, 0) := by
  have h1 : ∀ x ∈ o, inRange x := fun x hx => by have := hr x hx; unfold inRange; omega
  have hl := hf.len
  have hrow : ∀ x ∈ r, rowOk 4 x := by
    intro x hx
    obtain ⟨hk, _, g2, g2', g3, g3', g5⟩ := goodRow_of (hf.good x hx)
    exact ⟨⟨g2, g2', g3, g3', g5⟩, hk⟩
  unfold ansF
  rw [ho, if_neg (fun h => h ⟨by decide, by omega⟩), if_neg (fun h => h rfl), if_neg (fun h => h h1), if_neg (show ¬ (p < 0 ∨ (r.length : Int) ≤ p) by omega), if_neg (fun h => h hk), if_pos hrow]
end Go.Proofs.Ytljenpakncmlkaa.TrH
