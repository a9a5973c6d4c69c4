/- The law PartySymmetric, over numbers and lists alone: the printed law answers true. -/
import Derived.Test.YtjeamaahhpbbkaaDoorPBSym
import Derived.Test.YtjeamaahhpbbkaaDoorTypesPartySymmetric
namespace Go.Proofs.YtjeamaahhpbbkaaDoor.Pure
open Go.RowKit Go.Proofs.YtjeamaahhpbbkaaDoorW.PrintWords Go.Proofs.YtjeamaahhpbbkaaDoor.PAll Go.Proofs.YtjeamaahhpbbkaaDoor.Types Go.Proofs.YtjeamaahhpbbkaaDoor.PB

section
variable {N : Nat} {K : List Int} {L : List Sk} {T : List S38} (k : GoodK N K) (g : GoodS N K L) (ht : GoodT N T)
theorem lst_rd (t : Nat → Bool) (N j : Nat) (h : j < (lst t 0 N).length) : ∃ c : Nat, rd (lst t 0 N) (j : Int) = (c : Int) ∧ c < N ∧ t c = true := lst_mem t N _ (rdI_mem _ j h)
include k g ht in
theorem sy4 (d : Nat) : ∀ i : Nat, T.length - i = d → i ≤ T.length → Ev (fun f => insolvencylaw8_PartySymmetric.l4 f T ((T.length : Nat) : Int) ((i : Nat) : Int) K (L.map mk) T) true := by
  have h6 := ht.1
  induction d with
  | zero =>
    intro i hd hi
    refine Ev.step (fun k => by simp only [insolvencylaw8_PartySymmetric.l4]; rfl) ?_
    have c1 : ¬ ((i : Nat) : Int) < ((T.length : Nat) : Int) := by omega
    simp only [c1, if_false]
    exact Ev.bind aw (Ev.now _)
  | succ d ih =>
    intro i hd hi
    have hlt : i < T.length := by omega
    have h1 := ih (i + 1) (by omega) (by omega)
    have e := nxt hlt (by omega)
    have hm := rdT_mem T i hlt
    obtain ⟨x0, x1, y0, y1, _⟩ := ht.2 _ hm
    obtain ⟨A, hA⟩ := Int.eq_ofNat_of_zero_le x0
    obtain ⟨B, hB⟩ := Int.eq_ofNat_of_zero_le y0
    have c1 : ((i : Nat) : Int) < ((T.length : Nat) : Int) := by clear e; omega
    have c0 : (0 : Int) ≤ ((i : Nat) : Int) := by clear e; omega
    have hC := Connected_true k g ht A B (by clear e; omega) (by clear e; omega) (.inr (.inr (.inl ⟨_, hm, .inl ⟨hA, hB⟩⟩)))
    refine Ev.step (fun k => by simp only [insolvencylaw8_PartySymmetric.l4]; rfl) ?_
    simp only [c1, c0, if_true, show (rd_T38 T (i : Int)).f0 = ((A : Nat) : Int) from hA, show (rd_T38 T (i : Int)).f1 = ((B : Nat) : Int) from hB, e]
    refine Ev.bind hC ?_
    simp only [if_true]
    exact h1
include k g ht in
theorem sy3 (a b : Nat) (ha : a < N) (hb : b < N) (t : Nat → Bool) (hF : PB.Fin N a L t) (htb : t b = true) (i : Nat) (hend : Ev (fun f => insolvencylaw8_PartySymmetric.l2 f ((a : Nat) : Int) (lst t 0 N) ((N : Nat) : Int) ((a : Nat) : Int) (lst t 0 N) (((lst t 0 N).length : Nat) : Int) (wrap64 (((i : Nat) : Int) + 1)) K (L.map mk) T) true) (d : Nat) : ∀ j : Nat, (lst t 0 N).length - j = d → j ≤ (lst t 0 N).length →
    Ev (fun f => insolvencylaw8_PartySymmetric.l3 f ((a : Nat) : Int) (lst t 0 N) ((b : Nat) : Int) ((N : Nat) : Int) ((a : Nat) : Int) (lst t 0 N) (((lst t 0 N).length : Nat) : Int) ((i : Nat) : Int) (lst t 0 N) (((lst t 0 N).length : Nat) : Int) ((j : Nat) : Int) K (L.map mk) T) true := by
  have hN := k.seven
  have hll := lst_len t 0 N
  induction d with
  | zero =>
    intro j hd hj
    refine Ev.step (fun k => by simp only [insolvencylaw8_PartySymmetric.l3]; rfl) ?_
    have c1 : ¬ ((j : Nat) : Int) < (((lst t 0 N).length : Nat) : Int) := by omega
    simp only [c1, if_false]
    exact hend
  | succ d ih =>
    intro j hd hj
    have hlt : j < (lst t 0 N).length := by omega
    have h1 := ih (j + 1) (by omega) (by omega)
    have e := nxt hlt (by omega)
    obtain ⟨c, ec, hc, htc⟩ := lst_rd t N j hlt
    have c1 : ((j : Nat) : Int) < (((lst t 0 N).length : Nat) : Int) := by clear e ec; omega
    have c0 : (0 : Int) ≤ ((j : Nat) : Int) := by clear e ec; omega
    have k1 := Connected_true k g ht b c hb hc (.inr (.inr (.inr ⟨a, ha, (Ctl.of hF hb).1 htb, .inr ((Ctl.of hF hc).1 htc)⟩)))
    have k2 := Connected_true k g ht a c ha hc (.inr (.inl ((Ctl.of hF hc).1 htc)))
    refine Ev.step (fun k => by simp only [insolvencylaw8_PartySymmetric.l3]; rfl) ?_
    simp only [c1, c0, if_true, ec, e]
    refine Ev.bind k1 (Ev.bind k2 ?_)
    simp only [if_true]
    exact h1
include k g ht in
theorem sy2 (a : Nat) (ha : a < N) (t : Nat → Bool) (hF : PB.Fin N a L t) (hend : Ev (fun f => insolvencylaw8_PartySymmetric.l0 f ((N : Nat) : Int) (wrap64 (((a : Nat) : Int) + 1)) K (L.map mk) T) true) (d : Nat) : ∀ i : Nat, (lst t 0 N).length - i = d → i ≤ (lst t 0 N).length →
    Ev (fun f => insolvencylaw8_PartySymmetric.l2 f ((a : Nat) : Int) (lst t 0 N) ((N : Nat) : Int) ((a : Nat) : Int) (lst t 0 N) (((lst t 0 N).length : Nat) : Int) ((i : Nat) : Int) K (L.map mk) T) true := by
  have hN := k.seven
  have hll := lst_len t 0 N
  induction d with
  | zero =>
    intro i hd hi
    refine Ev.step (fun k => by simp only [insolvencylaw8_PartySymmetric.l2]; rfl) ?_
    have c1 : ¬ ((i : Nat) : Int) < (((lst t 0 N).length : Nat) : Int) := by omega
    simp only [c1, if_false]
    exact hend
  | succ d ih =>
    intro i hd hi
    have hlt : i < (lst t 0 N).length := by omega
    have h1 := ih (i + 1) (by omega) (by omega)
    have e := nxt hlt (by omega)
    obtain ⟨b, eb, hb, htb⟩ := lst_rd t N i hlt
    have c1 : ((i : Nat) : Int) < (((lst t 0 N).length : Nat) : Int) := by clear e eb; omega
    have c0 : (0 : Int) ≤ ((i : Nat) : Int) := by clear e eb; omega
    refine Ev.step (fun k => by simp only [insolvencylaw8_PartySymmetric.l2]; rfl) ?_
    simp only [c1, c0, if_true, eb]
    exact sy3 k g ht a b ha hb t hF htb i (by rw [e]; exact h1) _ 0 rfl (Nat.zero_le _)
include k g ht in
theorem sy1 (a : Nat) (ha : a < N) (hend : Ev (fun f => insolvencylaw8_PartySymmetric.l0 f ((N : Nat) : Int) (wrap64 (((a : Nat) : Int) + 1)) K (L.map mk) T) true) (d : Nat) : ∀ b : Nat, N - b = d → b ≤ N →
    Ev (fun f => insolvencylaw8_PartySymmetric.l1 f ((a : Nat) : Int) ((N : Nat) : Int) ((a : Nat) : Int) ((N : Nat) : Int) ((b : Nat) : Int) K (L.map mk) T) true := by
  have hN := k.seven
  induction d with
  | zero =>
    intro b hd hb
    obtain ⟨t, h2, hF⟩ := Controlled_ev k g ht a ha
    refine Ev.step (fun k => by simp only [insolvencylaw8_PartySymmetric.l1]; rfl) ?_
    have c1 : ¬ ((b : Nat) : Int) < ((N : Nat) : Int) := by omega
    simp only [c1, if_false]
    refine Ev.bind h2 ?_
    exact sy2 k g ht a ha t hF hend _ 0 rfl (Nat.zero_le _)
  | succ d ih =>
    intro b hd hb
    have hlt : b < N := by omega
    have h1 := ih (b + 1) (by omega) (by omega)
    have e := nxt hlt (by omega)
    have c1 : ((b : Nat) : Int) < ((N : Nat) : Int) := by clear e; omega
    obtain ⟨x, hx, hx2⟩ := Connected_ev k g ht a b ha hlt
    obtain ⟨y, hy, hy2⟩ := Connected_ev k g ht b a hlt ha
    have hxy : (x != y) = false := by
      have hi : x = true ↔ y = true := by rw [hx2, hy2]; exact ⟨fun h => h.symm ha, fun h => h.symm hlt⟩
      cases x <;> cases y <;> simp_all
    refine Ev.step (fun k => by simp only [insolvencylaw8_PartySymmetric.l1]; rfl) ?_
    simp only [c1, if_true, e]
    refine Ev.bind hx (Ev.bind hy ?_)
    simp only [hxy, Bool.false_eq_true, if_false]
    exact h1
include k g ht in
theorem sy0 (d : Nat) : ∀ a : Nat, N - a = d → a ≤ N → Ev (fun f => insolvencylaw8_PartySymmetric.l0 f ((N : Nat) : Int) ((a : Nat) : Int) K (L.map mk) T) true := by
  have hN := k.seven
  have hk := k.len
  induction d with
  | zero =>
    intro a hd ha
    refine Ev.step (fun k => by simp only [insolvencylaw8_PartySymmetric.l0]; rfl) ?_
    have c1 : ¬ ((a : Nat) : Int) < ((N : Nat) : Int) := by omega
    simp only [c1, if_false]
    exact sy4 k g ht T.length 0 rfl (Nat.zero_le _)
  | succ d ih =>
    intro a hd ha
    have hlt : a < N := by omega
    have h1 := ih (a + 1) (by omega) (by omega)
    have e := nxt hlt (by omega)
    have c1 : ((a : Nat) : Int) < ((N : Nat) : Int) := by clear e; omega
    refine Ev.step (fun k => by simp only [insolvencylaw8_PartySymmetric.l0]; rfl) ?_
    simp only [c1, if_true]
    refine Ev.bind (Connected_true k g ht a a hlt hlt (.inl rfl)) ?_
    simp only [if_true, Bool.not_true]
    refine Ev.step (fun k => by simp only [insolvencylaw8_PartySymmetric.j1]; rfl) ?_
    simp only [Bool.false_eq_true, if_false, hk]
    exact sy1 k g ht a hlt (by rw [e]; exact h1) N 0 rfl (Nat.zero_le _)
end
theorem PartySymmetric : TPartySymmetric.Pure := by
  intro a0 a1 a2 a3 h0 _ h2 h3
  suffices main : Ev (fun k => insolvencylaw8_PartySymmetric.f k a0 a1 a2 a3) true from ⟨main.choose, main.choose_spec _ (Nat.le_refl _)⟩
  obtain ⟨N, K, L, T, k, g, ht, hev⟩ := built a0 a1 h0 a2 h2.1 h2.2 a3 h3.1 h3.2
  have hk := k.len
  unfold insolvencylaw8_PartySymmetric.f
  refine Ev.bind hev ?_
  rw [hk]
  exact sy0 k g ht N 0 rfl (Nat.zero_le _)
end Go.Proofs.YtjeamaahhpbbkaaDoor.Pure
