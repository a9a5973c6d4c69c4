/- The law PartyFixpoint, over numbers and lists alone: the printed law answers true. -/
import Derived.Test.YtjeamaahhpbbkaaDoorPBLaw
import Derived.Test.YtjeamaahhpbbkaaDoorTypesPartyFixpoint
namespace Go.Proofs.YtjeamaahhpbbkaaDoor.Pure
open Go.RowKit Go.Proofs.YtjeamaahhpbbkaaDoorW.PrintWords Go.Proofs.YtjeamaahhpbbkaaDoor.PAll Go.Proofs.YtjeamaahhpbbkaaDoor.Types Go.Proofs.YtjeamaahhpbbkaaDoor.PB

section
variable {N : Nat} {K : List Int} {L : List Sk} {T : List S38} (k : GoodK N K) (g : GoodS N K L) (a : Nat) (t : Nat → Bool) (c : Nat)
theorem l_rd (l : List Int) (j : Nat) (h : j < l.length) : l.drop j = rd l (j : Int) :: l.drop (j + 1) := by
  rw [List.drop_eq_getElem_cons h]
  congr 1
  unfold rd
  rw [Int.toNat_natCast, List.getD_eq_getElem?_getD, List.getElem?_eq_getElem h]; rfl
/-- Is the owner on the list? -/
theorem vin (l : List Int) (hl : l.length ≤ 7) (i : Nat) (b0 : Bool) (q1 q2 : ByteArray) (x : Sk) (r : Bool × ByteArray × ByteArray) (fin : Bool)
    (hend : ∀ b : Bool, b = fin → Ev (fun f => if b = true then (if ((x.2.1 : Nat) : Int) = ((c : Nat) : Int) then ((rational_Add.f f b0 q1 q2 (qs x.2.2).f0 (qs x.2.2).f1 (qs x.2.2).f2).bind fun bt => (insolvencylaw8_votes.l0 f l ((a : Nat) : Int) ((c : Nat) : Int) (L.map mk) (((L.map mk).length : Nat) : Int) ((i + 1 : Nat) : Int) bt.1 bt.2.1 bt.2.2)) else (insolvencylaw8_votes.l0 f l ((a : Nat) : Int) ((c : Nat) : Int) (L.map mk) (((L.map mk).length : Nat) : Int) ((i + 1 : Nat) : Int) b0 q1 q2)) else (insolvencylaw8_votes.l0 f l ((a : Nat) : Int) ((c : Nat) : Int) (L.map mk) (((L.map mk).length : Nat) : Int) ((i + 1 : Nat) : Int) b0 q1 q2)) r)
    (hi : i < 1000) (d : Nat) : ∀ (j : Nat) (b : Bool), l.length - j = d → j ≤ l.length → (b || (l.drop j).any (fun y => y == ((x.1 : Nat) : Int))) = fin →
    Ev (fun f => insolvencylaw8_votes.l1 f l ((a : Nat) : Int) ((c : Nat) : Int) b (L.map mk) (((L.map mk).length : Nat) : Int) ((i : Nat) : Int) l ((l.length : Nat) : Int) ((j : Nat) : Int) b0 q1 q2 ((x.1 : Nat) : Int) ((x.2.1 : Nat) : Int) (qs x.2.2).f0 (qs x.2.2).f1 (qs x.2.2).f2) r := by
  induction d with
  | zero =>
    intro j b hd hj hb
    refine Ev.step (fun k => by simp only [insolvencylaw8_votes.l1]; rfl) ?_
    have c1 : ¬ ((j : Nat) : Int) < ((l.length : Nat) : Int) := by omega
    rw [List.drop_eq_nil_of_le (by omega), List.any_nil, Bool.or_false] at hb
    have e := nxt (i := i) (n := i + 1) (by omega) (by omega)
    simp only [c1, if_false, e]
    exact hend b hb
  | succ d ih =>
    intro j b hd hj hb
    have hlt : j < l.length := by omega
    have c1 : ((j : Nat) : Int) < ((l.length : Nat) : Int) := by omega
    have c0 : (0 : Int) ≤ ((j : Nat) : Int) := by omega
    have e := nxt hlt (by omega)
    rw [l_rd l j hlt, List.any_cons] at hb
    refine Ev.step (fun k => by simp only [insolvencylaw8_votes.l1]; rfl) ?_
    cases b with
    | true =>
      simp only [c1, c0, if_true, e]
      exact ih (j + 1) true (by omega) (by omega) (by rw [Bool.true_or]; rwa [Bool.true_or] at hb)
    | false =>
      simp only [c1, c0, if_true, e, Bool.false_eq_true, if_false]
      exact ih (j + 1) _ (by omega) (by omega) (by rwa [Bool.false_or] at hb)
include k g in
/-- The votes of the owner and its companies. -/
theorem votes_loop (d : Nat) : ∀ i : Nat, L.length - i = d → i ≤ L.length →
    Ev (fun f => insolvencylaw8_votes.l0 f (lst t 0 N) ((a : Nat) : Int) ((c : Nat) : Int) (L.map mk) (((L.map mk).length : Nat) : Int) ((i : Nat) : Int) (qs (vt (pp a t) c (L.take i))).f0 (qs (vt (pp a t) c (L.take i))).f1 (qs (vt (pp a t) c (L.take i))).f2) (tup (qs (vt (pp a t) c L))) := by
  have hN := k.seven
  have hlen := g.len
  induction d with
  | zero =>
    intro i hd hi
    obtain rfl : i = L.length := by omega
    refine Ev.step (fun k => by simp only [insolvencylaw8_votes.l0]; rfl) ?_
    have c1 : ¬ ((L.length : Nat) : Int) < (((L.map mk).length : Nat) : Int) := by rw [List.length_map]; omega
    simp only [c1, if_false, List.take_length]
    exact Ev.now _
  | succ d ih =>
    intro i hd hi
    have hlt : i < L.length := by omega
    have h1 := ih (i + 1) (by omega) (by omega)
    have hg := g.o L[i] (List.getElem_mem hlt)
    have hsum := g.le (pp a t) c (i + 1)
    have c1 : ((i : Nat) : Int) < (((L.map mk).length : Nat) : Int) := by rw [List.length_map]; omega
    have c0 : (0 : Int) ≤ ((i : Nat) : Int) := by omega
    have f0 : (mk L[i]).f0 = (L[i].1 : Int) := rfl
    have f1 : (mk L[i]).f1 = (L[i].2.1 : Int) := rfl
    have f2 : (mk L[i]).f2 = qs L[i].2.2 := rfl
    have hll := lst_len t 0 N
    refine Ev.step (fun k => by simp only [insolvencylaw8_votes.l0]; rfl) ?_
    simp only [c1, c0, if_true, mk_rd L i hlt, f0, f1, f2]
    rw [vt_take _ _ _ _ hlt] at h1 hsum
    refine vin a c (lst t 0 N) (by omega) i _ _ _ L[i] _ (pp a t L[i].1) ?_ (by omega) _ 0 _ rfl (Nat.zero_le _) ?_
    · rintro b rfl
      by_cases hp : pp a t L[i].1 = true
      · simp only [hp, if_true]
        by_cases hc : ((L[i].2.1 : Nat) : Int) = ((c : Nat) : Int)
        · have hc' : L[i].2.1 = c := by omega
          rw [if_pos ⟨hp, hc'⟩] at h1 hsum
          simp only [hc, if_true]
          exact Ev.bind (add10 _ _ hg.2.2.2.2.1 hg.2.2.2.2.2 hsum) h1
        · have hc' : ¬ L[i].2.1 = c := by omega
          rw [if_neg (fun h => hc' h.2), Nat.add_zero] at h1
          simp only [hc, if_false]
          exact h1
      · rw [if_neg (fun h => hp h.1), Nat.add_zero] at h1
        simp only [hp]
        exact h1
    · rw [List.drop_zero, lst_any t N L[i].1 hg.1]
      unfold pp
      congr 1
      by_cases h : L[i].1 = a
      · rw [h, decide_eq_true rfl]; exact beq_self_eq_true _
      · rw [decide_eq_false h]; exact beq_eq_false_iff_ne.2 (by omega)
include k g in
theorem votes_ev : Ev (fun f => insolvencylaw8_votes.f f K (L.map mk) T (lst t 0 N) ((a : Nat) : Int) ((c : Nat) : Int)) (tup (qs (vt (pp a t) c L))) := by
  have h := votes_loop k g a t c L.length 0 rfl (Nat.zero_le _)
  rw [List.take_zero] at h
  exact h
include k g in
/-- One company of the law's loop. -/
theorem fix1 (hF : PB.Fin N a L t) (hc : c < N) (hnext : Ev (fun f => insolvencylaw8_PartyFixpoint.l0 f ((a : Nat) : Int) (lst t 0 N) ((N : Nat) : Int) ((c + 1 : Nat) : Int) K (L.map mk) T) true) (d : Nat) : ∀ (j : Nat) (b : Bool), (lst t 0 N).length - j = d → j ≤ (lst t 0 N).length → (b || ((lst t 0 N).drop j).any (fun y => y == ((c : Nat) : Int))) = t c →
    Ev (fun f => insolvencylaw8_PartyFixpoint.l1 f ((a : Nat) : Int) (lst t 0 N) ((c : Nat) : Int) b ((N : Nat) : Int) ((c : Nat) : Int) (lst t 0 N) (((lst t 0 N).length : Nat) : Int) ((j : Nat) : Int) K (L.map mk) T) true := by
  have hN := k.seven
  have hll := lst_len t 0 N
  induction d with
  | zero =>
    intro j b hd hj hb
    rw [List.drop_eq_nil_of_le (by omega), List.any_nil, Bool.or_false] at hb
    subst hb
    have c1 : ¬ ((j : Nat) : Int) < (((lst t 0 N).length : Nat) : Int) := by omega
    have e := nxt hc (by omega)
    have hle := g.le (pp a t) c L.length
    rw [List.take_length] at hle
    refine Ev.step (fun k => by simp only [insolvencylaw8_PartyFixpoint.l1]; rfl) ?_
    simp only [c1, if_false]
    refine Ev.bind (votes_ev k g a t c) (Ev.bind ratio_half (Ev.bind (cmp5 _ hle) ?_))
    by_cases ha : ((c : Nat) : Int) = ((a : Nat) : Int)
    · have hf : ¬ t c = true := fun h => ((hF.own c hc).1 h).1 (by omega)
      have e2 : wrap64 (((a : Nat) : Int) + 1) = ((c + 1 : Nat) : Int) := by rw [← ha]; exact e
      simp only [ha, if_true, hf, Bool.false_eq_true, if_false, e2]
      exact hnext
    · simp only [ha, if_false]
      have hd2 : decide (sg (vt (pp a t) c L) 5 > 0) = t c := by
        cases ht : t c with
        | true => exact decide_eq_true ((sg5 _).2 ((hF.own c hc).1 ht).2)
        | false => exact decide_eq_false (fun h => by
            have := (hF.own c hc).2 ⟨fun h => ha (by omega), (sg5 _).1 h⟩
            rw [ht] at this; cases this)
      have hb2 : (t c != decide (sg (vt (pp a t) c L) 5 > 0)) = false := by rw [hd2]; exact bne_self_eq_false _
      simp only [hb2, Bool.false_eq_true, if_false, e]
      exact hnext
  | succ d ih =>
    intro j b hd hj hb
    have hlt : j < (lst t 0 N).length := by omega
    have c1 : ((j : Nat) : Int) < (((lst t 0 N).length : Nat) : Int) := by omega
    have c0 : (0 : Int) ≤ ((j : Nat) : Int) := by omega
    have e := nxt hlt (by omega)
    rw [l_rd _ j hlt, List.any_cons] at hb
    refine Ev.step (fun k => by simp only [insolvencylaw8_PartyFixpoint.l1]; rfl) ?_
    cases b with
    | true =>
      simp only [c1, c0, if_true, e]
      exact ih (j + 1) true (by omega) (by omega) (by rw [Bool.true_or]; rwa [Bool.true_or] at hb)
    | false =>
      simp only [c1, c0, if_true, e, Bool.false_eq_true, if_false]
      exact ih (j + 1) _ (by omega) (by omega) (by rwa [Bool.false_or] at hb)
include k g in
theorem fix0 (hF : PB.Fin N a L t) (d : Nat) : ∀ c : Nat, N - c = d → c ≤ N → Ev (fun f => insolvencylaw8_PartyFixpoint.l0 f ((a : Nat) : Int) (lst t 0 N) ((N : Nat) : Int) ((c : Nat) : Int) K (L.map mk) T) true := by
  induction d with
  | zero =>
    intro c hd hc
    refine Ev.step (fun k => by simp only [insolvencylaw8_PartyFixpoint.l0]; rfl) ?_
    have c1 : ¬ ((c : Nat) : Int) < ((N : Nat) : Int) := by omega
    simp only [c1, if_false]
    exact Ev.bind aw (Ev.now _)
  | succ d ih =>
    intro c hd hc
    have hlt : c < N := by omega
    have h1 := ih (c + 1) (by omega) (by omega)
    refine Ev.step (fun k => by simp only [insolvencylaw8_PartyFixpoint.l0]; rfl) ?_
    have c1 : ((c : Nat) : Int) < ((N : Nat) : Int) := by omega
    simp only [c1, if_true]
    exact fix1 k g a t c hF hlt h1 _ 0 false rfl (Nat.zero_le _) (by rw [Bool.false_or, List.drop_zero]; exact lst_any t N c hlt)
end
theorem PartyFixpoint : TPartyFixpoint.Pure := by
  intro a0 a1 a2 a3 h0 _ h2 h3
  suffices main : Ev (fun k => insolvencylaw8_PartyFixpoint.f k a0 a1 a2 a3) true from ⟨main.choose, main.choose_spec _ (Nat.le_refl _)⟩
  obtain ⟨N, K, L, T, k, g, ht, hev⟩ := built a0 a1 h0 a2 h2.1 h2.2 [] (Nat.zero_le _) (fun x hx => (nomatch hx))
  have hN := k.two
  have h7 := k.seven
  have hk := k.len
  have ha : ∃ a : Nat, a < N ∧ Int.tmod (wrap64 a3) ((K.length : Nat) : Int) = (a : Int) := by
    obtain ⟨a, b, e⟩ := mods a3 ⟨h3.1, by have := h3.2; omega⟩ N (by omega)
    exact ⟨a, b, by rw [hk]; exact e⟩
  obtain ⟨a, ha, ea⟩ := ha
  obtain ⟨t, c1, hF⟩ := Controlled_ev k g ht a ha
  unfold insolvencylaw8_PartyFixpoint.f
  refine Ev.bind hev ?_
  have d1 : ¬ ((K.length : Nat) : Int) = 0 := by clear ea; omega
  simp only [d1, if_false, ea]
  refine Ev.bind c1 ?_
  simp only [if_true]
  rw [hk]
  exact fix0 k g a t hF N 0 rfl (Nat.zero_le _)
end Go.Proofs.YtjeamaahhpbbkaaDoor.Pure
