/- party.Check accepts parties whose votes are tenths. -/
import Derived.Test.YtjeamaahhpbbkaaDoorPBCtl
import Derived.Test.YtjeamaahhpbbkaaDoorPAllx12
namespace Go.Proofs.YtjeamaahhpbbkaaDoor.PB
open Go.RowKit Go.Proofs.YtjeamaahhpbbkaaDoorW.PrintWords Go.Proofs.YtjeamaahhpbbkaaDoor.PAll

structure GoodK (N : Nat) (K : List Int) : Prop where
  len : K.length = N
  two : 2 ≤ N
  seven : N ≤ 7
  kind : ∀ x ∈ K, x = 1 ∨ x = 2
def GoodT (N : Nat) (T : List S38) : Prop := T.length ≤ 6 ∧ ∀ t ∈ T, 0 ≤ t.f0 ∧ t.f0 < N ∧ 0 ≤ t.f1 ∧ t.f1 < N ∧ t.f0 ≠ t.f1
theorem rdI_mem (l : List Int) (i : Nat) (h : i < l.length) : rd l (i : Int) ∈ l := by
  unfold rd
  rw [Int.toNat_natCast, List.getD_eq_getElem?_getD, List.getElem?_eq_getElem h]
  exact List.getElem_mem h
theorem rdT_mem (l : List S38) (i : Nat) (h : i < l.length) : rd_T38 l (i : Int) ∈ l := by
  show l.getD (Int.toNat (i : Int)) z38 ∈ l
  rw [Int.toNat_natCast, List.getD_eq_getElem?_getD, List.getElem?_eq_getElem h]
  exact List.getElem_mem h
theorem is_in (K : List Int) (s : List S36) (t : List S38) (a : Int) (h0 : 0 ≤ a) (h1 : a < (K.length : Int)) : party_is.f K s t a = some true := by
  unfold party_is.f
  rw [if_pos h0, decide_eq_true h1]
section
variable {N : Nat} {K : List Int} {L : List Sk} {T : List S38} (k : GoodK N K) (g : GoodS N K L) (ht : GoodT N T)
include k ht in
theorem pc4 (d : Nat) : ∀ i : Nat, T.length - i = d → i ≤ T.length → Ev (fun f => party_Check.l4 f T ((T.length : Nat) : Int) (i : Int) K (L.map mk) T) 0 := by
  induction d with
  | zero =>
    intro i hd hi
    refine Ev.step (fun k => by simp only [party_Check.l4]; rfl) ?_
    have c : ¬ (i : Int) < ((T.length : Nat) : Int) := by omega
    simp only [c, if_false]
    exact Ev.now _
  | succ d ih =>
    intro i hd hi
    have hlt : i < T.length := by omega
    have h1 := ih (i + 1) (by omega) (by omega)
    have hl := ht.1
    have hk := k.len
    obtain ⟨a0, a1, b0, b1, ne⟩ := ht.2 _ (rdT_mem T i hlt)
    have p0 := is_in K (L.map mk) T _ a0 (by omega)
    have p1 := is_in K (L.map mk) T _ b0 (by omega)
    have c : (i : Int) < ((T.length : Nat) : Int) := by omega
    have c0 : (0 : Int) ≤ (i : Int) := by omega
    refine Ev.step (fun k => by simp only [party_Check.l4]; rfl) ?_
    simp only [c, c0, if_true, p0, p1, Option.bind_some, ne, if_false, nxt hlt (by omega)]
    exact h1
include k g ht in
theorem pc3 (d : Nat) : ∀ i : Nat, N - i = d → i ≤ N → Ev (fun f => party_Check.l3 f (vec N (fun _ => true) L L.length) (((vec N (fun _ => true) L L.length).length : Nat) : Int) (i : Int) K (L.map mk) T) 0 := by
  have hN := k.seven
  rw [vec_len]
  induction d with
  | zero =>
    intro i hd hi
    refine Ev.step (fun k => by simp only [party_Check.l3]; rfl) ?_
    have c : ¬ (i : Int) < (N : Int) := by omega
    simp only [c, if_false]
    exact pc4 k ht T.length 0 rfl (Nat.zero_le _)
  | succ d ih =>
    intro i hd hi
    have hlt : i < N := by omega
    have h1 := ih (i + 1) (by omega) (by omega)
    have c : (i : Int) < (N : Int) := by omega
    have c2 : (i : Int) < (((vec N (fun _ => true) L L.length).length : Nat) : Int) := by rw [vec_len]; omega
    have c0 : (0 : Int) ≤ (i : Int) := by omega
    have hle := g.le (fun _ => true) i L.length
    have e2 := sg10 _ hle
    refine Ev.step (fun k => by simp only [party_Check.l3]; rfl) ?_
    simp only [c, c0, c2, if_true, vec_rd _ _ _ _ _ hlt, nxt hlt (by omega)]
    refine Ev.bind int1 (Ev.bind (cmp10 _ hle) ?_)
    simp only [e2, if_false]
    exact h1
include k g ht in
theorem pc2 (d : Nat) : ∀ i : Nat, L.length - i = d → i ≤ L.length → Ev (fun f => party_Check.l2 f (vec N (fun _ => true) L i) (L.map mk) (((L.map mk).length : Nat) : Int) (i : Int) K (L.map mk) T) 0 := by
  have hN := k.seven
  induction d with
  | zero =>
    intro i hd hi
    obtain rfl : i = L.length := by omega
    refine Ev.step (fun k => by simp only [party_Check.l2]; rfl) ?_
    have c : ¬ ((L.length : Nat) : Int) < (((L.map mk).length : Nat) : Int) := by rw [List.length_map]; omega
    simp only [c, if_false]
    exact pc3 k g ht N 0 rfl (Nat.zero_le _)
  | succ d ih =>
    intro i hd hi
    have hlt : i < L.length := by omega
    have h1 := ih (i + 1) (by omega) (by omega)
    have hg := g.o L[i] (List.getElem_mem hlt)
    have hl := g.len
    have c : ((i : Nat) : Int) < (((L.map mk).length : Nat) : Int) := by rw [List.length_map]; omega
    have c0 : (0 : Int) ≤ (i : Int) := by omega
    have hsum := g.le (fun _ => true) L[i].2.1 (i + 1)
    rw [vt_take _ _ _ _ hlt, if_pos ⟨rfl, rfl⟩] at hsum
    have f1 : (mk L[i]).f1 = (L[i].2.1 : Int) := rfl
    have f2 : (mk L[i]).f2 = qs L[i].2.2 := rfl
    have d0 : (0 : Int) ≤ (L[i].2.1 : Int) := by omega
    have d1 : (L[i].2.1 : Int) < (((vec N (fun _ => true) L i).length : Nat) : Int) := by rw [vec_len]; omega
    refine Ev.step (fun k => by simp only [party_Check.l2]; rfl) ?_
    simp only [c, c0, if_true, mk_rd L i hlt, nxt hlt (by omega), f1, f2, d0, d1, vec_rd _ _ _ _ _ hg.2.1, Int.toNat_natCast]
    refine Ev.bind (add10 _ _ hg.2.2.2.2.1 hg.2.2.2.2.2 hsum) ?_
    have e : (vec N (fun _ => true) L i).set L[i].2.1 (⟨(tup (qs (vt (fun _ => true) L[i].2.1 (L.take i) + L[i].2.2))).1, (tup (qs (vt (fun _ => true) L[i].2.1 (L.take i) + L[i].2.2))).2.1, (tup (qs (vt (fun _ => true) L[i].2.1 (L.take i) + L[i].2.2))).2.2⟩ : S33) = vec N (fun _ => true) L (i + 1) := vec_put N (fun _ => true) L i hlt rfl
    rw [e]
    exact h1
include k g ht in
theorem pc1 (d : Nat) : ∀ i : Nat, L.length - i = d → i ≤ L.length → Ev (fun f => party_Check.l1 f (L.map mk) (((L.map mk).length : Nat) : Int) (i : Int) K (L.map mk) T) 0 := by
  have hN := k.seven
  have hk := k.len
  induction d with
  | zero =>
    intro i hd hi
    refine Ev.step (fun k => by simp only [party_Check.l1]; rfl) ?_
    have c : ¬ ((i : Nat) : Int) < (((L.map mk).length : Nat) : Int) := by rw [List.length_map]; omega
    have c1 : (0 : Int) ≤ ((K.length : Nat) : Int) := by omega
    have c2 : (((K.length : Nat) : Int)).toNat ≤ 7036874417766 := by omega
    have e : List.replicate (((K.length : Nat) : Int)).toNat z33 = vec N (fun _ => true) L 0 := by rw [Int.toNat_natCast, hk]; exact vec_zero N _ L
    simp only [c, if_false, c1, if_true, c2, e]
    exact pc2 k g ht L.length 0 rfl (Nat.zero_le _)
  | succ d ih =>
    intro i hd hi
    have hlt : i < L.length := by omega
    have h1 := ih (i + 1) (by omega) (by omega)
    have hg := g.o L[i] (List.getElem_mem hlt)
    have hl := g.len
    have c : ((i : Nat) : Int) < (((L.map mk).length : Nat) : Int) := by rw [List.length_map]; omega
    have c0 : (0 : Int) ≤ (i : Int) := by omega
    have f0 : (mk L[i]).f0 = (L[i].1 : Int) := rfl
    have f1 : (mk L[i]).f1 = (L[i].2.1 : Int) := rfl
    have f2 : (mk L[i]).f2 = qs L[i].2.2 := rfl
    have p0 := is_in K (L.map mk) T (L[i].1 : Int) (by omega) (by omega)
    have p1 := is_in K (L.map mk) T (L[i].2.1 : Int) (by omega) (by omega)
    have d0 : (0 : Int) ≤ (L[i].2.1 : Int) := by omega
    have d1 : (L[i].2.1 : Int) < ((K.length : Nat) : Int) := by omega
    have d2 : rd K (L[i].2.1 : Int) = 2 := by unfold rd; rw [Int.toNat_natCast]; exact hg.2.2.2.1
    have d3 : ((L[i].1 : Int) == (L[i].2.1 : Int)) = false := beq_eq_false_iff_ne.2 (by have := hg.2.2.1; omega)
    have d4 : ¬ ((1 : Int) ≤ 0) := by decide
    refine Ev.step (fun k => by simp only [party_Check.l1]; rfl) ?_
    simp only [c, c0, if_true, mk_rd L i hlt, f0, f1, f2, p0, p1, Option.bind_some, d0, d1, d2, d3]
    refine Ev.step (fun k => by simp only [party_Check.j3]; rfl) ?_
    simp only [Bool.false_eq_true, if_false]
    refine Ev.bind (sign10 _ hg.2.2.2.2.1 hg.2.2.2.2.2) ?_
    simp only [d4, if_false, nxt hlt (by omega)]
    exact h1
include k g ht in
theorem pc0 (d : Nat) : ∀ i : Nat, N - i = d → i ≤ N → Ev (fun f => party_Check.l0 f K ((K.length : Nat) : Int) (i : Int) K (L.map mk) T) 0 := by
  have hN := k.seven
  have hk := k.len
  induction d with
  | zero =>
    intro i hd hi
    refine Ev.step (fun k => by simp only [party_Check.l0]; rfl) ?_
    have c : ¬ ((i : Nat) : Int) < ((K.length : Nat) : Int) := by omega
    simp only [c, if_false]
    exact pc1 k g ht L.length 0 rfl (Nat.zero_le _)
  | succ d ih =>
    intro i hd hi
    have hlt : i < N := by omega
    have h1 := ih (i + 1) (by omega) (by omega)
    have c : ((i : Nat) : Int) < ((K.length : Nat) : Int) := by omega
    have c0 : (0 : Int) ≤ (i : Int) := by omega
    have hx := k.kind _ (rdI_mem K i (by omega))
    refine Ev.step (fun k => by simp only [party_Check.l0]; rfl) ?_
    simp only [c, c0, if_true, nxt hlt (by omega)]
    by_cases c1 : rd K (i : Int) = 1
    · simp only [c1, if_true]; exact h1
    · have c2 : rd K (i : Int) = 2 := hx.resolve_left c1
      simp only [c2, if_true, show ¬ ((2 : Int) = 1) by decide, if_false]; exact h1
include k g ht in
theorem check_ev : Ev (fun f => party_Check.f f K (L.map mk) T) 0 := by
  have hk := k.len
  have hN := k.seven
  have hl := g.len
  have hT := ht.1
  unfold party_Check.f
  have c1 : ¬ ((K.length : Nat) : Int) > 32 := by omega
  have c2 : ¬ (((L.map mk).length : Nat) : Int) > 64 := by rw [List.length_map]; omega
  have c3 : ¬ ((T.length : Nat) : Int) > 64 := by omega
  simp only [c1, c2, c3, if_false, decide_false]
  refine Ev.step (fun k => by simp only [party_Check.j0]; rfl) ?_
  simp only [Bool.false_eq_true, if_false]
  exact pc0 k g ht N 0 rfl (Nat.zero_le _)
end
end Go.Proofs.YtjeamaahhpbbkaaDoor.PB
