/- The law PartyChain, over numbers and lists alone: the printed law answers true. -/
import Derived.Test.YtjeamaahhpbbkaaDoorPBCon
import Derived.Test.YtjeamaahhpbbkaaDoorTypesPartyChain
namespace Go.Proofs.YtjeamaahhpbbkaaDoor.Pure
open Go.RowKit Go.Proofs.YtjeamaahhpbbkaaDoorW.PrintWords Go.Proofs.YtjeamaahhpbbkaaDoor.PAll Go.Proofs.YtjeamaahhpbbkaaDoor.Types Go.Proofs.YtjeamaahhpbbkaaDoor.PB

section
variable {N : Nat} {K : List Int} {L : List Sk} {T : List S38} (k : GoodK N K) (g : GoodS N K L) (ht : GoodT N T)
theorem lst_rd (t : Nat → Bool) (N j : Nat) (h : j < (lst t 0 N).length) : ∃ c : Nat, rd (lst t 0 N) (j : Int) = (c : Int) ∧ c < N ∧ t c = true := lst_mem t N _ (rdI_mem _ j h)
include k g ht in
theorem ch2 (a b : Nat) (ha : a < N) (t u : Nat → Bool) (hF : PB.Fin N a L t) (hG : PB.Fin N b L u) (hb : t b = true) (i : Nat) (hend : Ev (fun f => insolvencylaw8_PartyChain.l1 f ((a : Nat) : Int) ((N : Nat) : Int) ((a : Nat) : Int) (lst t 0 N) (((lst t 0 N).length : Nat) : Int) (wrap64 (((i : Nat) : Int) + 1)) K (L.map mk) T) true) (d : Nat) : ∀ j : Nat, (lst u 0 N).length - j = d → j ≤ (lst u 0 N).length →
    Ev (fun f => insolvencylaw8_PartyChain.l2 f ((a : Nat) : Int) ((N : Nat) : Int) ((a : Nat) : Int) (lst t 0 N) (((lst t 0 N).length : Nat) : Int) ((i : Nat) : Int) (lst u 0 N) (((lst u 0 N).length : Nat) : Int) ((j : Nat) : Int) K (L.map mk) T) true := by
  have hN := k.seven
  have hll := lst_len u 0 N
  induction d with
  | zero =>
    intro j hd hj
    refine Ev.step (fun k => by simp only [insolvencylaw8_PartyChain.l2]; rfl) ?_
    have c1 : ¬ ((j : Nat) : Int) < (((lst u 0 N).length : Nat) : Int) := by omega
    simp only [c1, if_false]
    exact hend
  | succ d ih =>
    intro j hd hj
    have hlt : j < (lst u 0 N).length := by omega
    have h1 := ih (j + 1) (by omega) (by omega)
    have e := nxt hlt (by omega)
    obtain ⟨c, ec, hc, hu⟩ := lst_rd u N j hlt
    have c1 : ((j : Nat) : Int) < (((lst u 0 N).length : Nat) : Int) := by clear e ec; omega
    have c0 : (0 : Int) ≤ ((j : Nat) : Int) := by clear e ec; omega
    refine Ev.step (fun k => by simp only [insolvencylaw8_PartyChain.l2]; rfl) ?_
    simp only [c1, c0, if_true, ec, e]
    refine Ev.bind (Controls_ev k g ht a c ha hc t hF) ?_
    by_cases hca : ((c : Nat) : Int) = ((a : Nat) : Int)
    · simp only [hca, if_true]; exact h1
    · have htc := trans hF hG hb hc hu (fun h => hca (by rw [h]))
      simp only [hca, if_false, htc, if_true]
      exact h1
include k g ht in
theorem ch1 (a : Nat) (ha : a < N) (t : Nat → Bool) (hF : PB.Fin N a L t) (hend : Ev (fun f => insolvencylaw8_PartyChain.l0 f ((N : Nat) : Int) (wrap64 (((a : Nat) : Int) + 1)) K (L.map mk) T) true) (d : Nat) : ∀ i : Nat, (lst t 0 N).length - i = d → i ≤ (lst t 0 N).length →
    Ev (fun f => insolvencylaw8_PartyChain.l1 f ((a : Nat) : Int) ((N : Nat) : Int) ((a : Nat) : Int) (lst t 0 N) (((lst t 0 N).length : Nat) : Int) ((i : Nat) : Int) K (L.map mk) T) true := by
  have hN := k.seven
  have hll := lst_len t 0 N
  induction d with
  | zero =>
    intro i hd hi
    refine Ev.step (fun k => by simp only [insolvencylaw8_PartyChain.l1]; rfl) ?_
    have c1 : ¬ ((i : Nat) : Int) < (((lst t 0 N).length : Nat) : Int) := by omega
    simp only [c1, if_false]
    exact hend
  | succ d ih =>
    intro i hd hi
    have hlt : i < (lst t 0 N).length := by omega
    have h1 := ih (i + 1) (by omega) (by omega)
    have e := nxt hlt (by omega)
    obtain ⟨b, eb, hb, htb⟩ := lst_rd t N i hlt
    obtain ⟨u, h2, hG⟩ := Controlled_ev k g ht b hb
    have c1 : ((i : Nat) : Int) < (((lst t 0 N).length : Nat) : Int) := by clear e eb; omega
    have c0 : (0 : Int) ≤ ((i : Nat) : Int) := by clear e eb; omega
    refine Ev.step (fun k => by simp only [insolvencylaw8_PartyChain.l1]; rfl) ?_
    simp only [c1, c0, if_true, eb]
    refine Ev.bind h2 ?_
    exact ch2 k g ht a b ha t u hF hG htb i (by rw [e]; exact h1) _ 0 rfl (Nat.zero_le _)
include k g ht in
theorem ch0 (d : Nat) : ∀ a : Nat, N - a = d → a ≤ N → Ev (fun f => insolvencylaw8_PartyChain.l0 f ((N : Nat) : Int) ((a : Nat) : Int) K (L.map mk) T) true := by
  have hN := k.seven
  induction d with
  | zero =>
    intro a hd ha
    refine Ev.step (fun k => by simp only [insolvencylaw8_PartyChain.l0]; rfl) ?_
    have c1 : ¬ ((a : Nat) : Int) < ((N : Nat) : Int) := by omega
    simp only [c1, if_false]
    exact Ev.bind aw (Ev.now _)
  | succ d ih =>
    intro a hd ha
    have hlt : a < N := by omega
    have h1 := ih (a + 1) (by omega) (by omega)
    have e := nxt hlt (by omega)
    obtain ⟨t, h2, hF⟩ := Controlled_ev k g ht a hlt
    have c1 : ((a : Nat) : Int) < ((N : Nat) : Int) := by clear e; omega
    refine Ev.step (fun k => by simp only [insolvencylaw8_PartyChain.l0]; rfl) ?_
    simp only [c1, if_true]
    refine Ev.bind h2 ?_
    simp only [if_true]
    exact ch1 k g ht a hlt t hF (by rw [e]; exact h1) _ 0 rfl (Nat.zero_le _)
end
theorem PartyChain : TPartyChain.Pure := by
  intro a0 a1 a2 h0 _ h2
  suffices main : Ev (fun k => insolvencylaw8_PartyChain.f k a0 a1 a2) true from ⟨main.choose, main.choose_spec _ (Nat.le_refl _)⟩
  obtain ⟨N, K, L, T, k, g, ht, hev⟩ := built a0 a1 h0 a2 h2.1 h2.2 [] (Nat.zero_le _) (fun x hx => (nomatch hx))
  have hk := k.len
  unfold insolvencylaw8_PartyChain.f
  refine Ev.bind hev ?_
  rw [hk]
  exact ch0 k g ht N 0 rfl (Nat.zero_le _)
end Go.Proofs.YtjeamaahhpbbkaaDoor.Pure
