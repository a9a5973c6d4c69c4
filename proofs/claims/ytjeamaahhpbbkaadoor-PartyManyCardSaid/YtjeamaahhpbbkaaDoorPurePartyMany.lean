/- The law PartyMany, over numbers and lists alone: the printed law answers true. -/
import Derived.Test.YtjeamaahhpbbkaaDoorPartyTab
import Derived.Test.YtjeamaahhpbbkaaDoorPAllx16
import Derived.OpenShut
namespace Go.Proofs.YtjeamaahhpbbkaaDoor.Pure
open Go.RowKit Go.Proofs.YtjeamaahhpbbkaaDoorW.PrintWords Go.Proofs.YtjeamaahhpbbkaaDoor.PAll Go.Proofs.YtjeamaahhpbbkaaDoor.PT

theorem w64 {x : Int} (h0 : -9223372036854775808 ≤ x) (h1 : x ≤ 9223372036854775807) : wrap64 x = x := by unfold wrap64; omega
theorem next {i n : Nat} (h : i < n) (hn : n ≤ 1000) : wrap64 ((i : Int) + 1) = ((i + 1 : Nat) : Int) := by rw [w64 (by omega) (by omega)]; omega
theorem rd_rep (n i : Nat) (x : Int) (h : i < n) : rd (List.replicate n x) (i : Int) = x := by
  unfold rd
  rw [Int.toNat_natCast, List.getD_eq_getElem?_getD, List.getElem?_replicate_of_lt h]; rfl
def st : S36 := ⟨0, 1, qs 70 1⟩
def ti : S38 := ⟨0, 1⟩
theorem rd_st (n i : Nat) (h : i < n) : rd_T36 (List.replicate n st) (i : Int) = st := by
  unfold rd_T36
  rw [Int.toNat_natCast, List.getD_eq_getElem?_getD, List.getElem?_replicate_of_lt h]; rfl
theorem rd_ti (n i : Nat) (h : i < n) : rd_T38 (List.replicate n ti) (i : Int) = ti := by
  unfold rd_T38
  rw [Int.toNat_natCast, List.getD_eq_getElem?_getD, List.getElem?_replicate_of_lt h]; rfl
/-- The votes held in each company behind j stakes. -/
def vs (n j : Nat) : List S33 := (List.replicate n z33).set 1 (qs 70 j)
theorem vs_len (n j : Nat) : (vs n j).length = n := by unfold vs; rw [List.length_set, List.length_replicate]
theorem vs_one (n j : Nat) (h : 2 ≤ n) : rd_T33 (vs n j) 1 = qs 70 j := by
  show (vs n j).getD 1 z33 = _
  unfold vs
  rw [List.getD_eq_getElem?_getD, List.getElem?_set_self (by rw [List.length_replicate]; omega)]; rfl
theorem vs_any (n j i : Nat) (hn : 2 ≤ n) (h : i < n) : ∃ m, (m = 0 ∨ m = j) ∧ rd_T33 (vs n j) (i : Int) = qs 70 m := by
  by_cases c : i = 1
  · subst c
    exact ⟨j, .inr rfl, vs_one n j hn⟩
  · refine ⟨0, .inl rfl, ?_⟩
    show (vs n j).getD (Int.toNat (i : Int)) z33 = _
    unfold vs
    rw [Int.toNat_natCast, List.getD_eq_getElem?_getD, List.getElem?_set_ne (fun h => c h.symm), List.getElem?_replicate_of_lt h]; rfl
theorem vs_zero (n : Nat) (hn : 2 ≤ n) : List.replicate n z33 = vs n 0 := by
  refine List.ext_getElem? fun i => ?_
  unfold vs
  by_cases c : 1 = i
  · subst c
    rw [List.getElem?_set_self (by rw [List.length_replicate]; omega), List.getElem?_replicate_of_lt (by omega)]; rfl
  · rw [List.getElem?_set_ne c]
theorem vs_next (n j m : Nat) : (vs n j).set 1 (qs 70 m) = vs n m := by unfold vs; rw [List.set_set]
theorem is_ok (n : Nat) (hn : 2 ≤ n) (s : List S36) (t : List S38) : party_is.f (List.replicate n 2) s t 0 = some true ∧ party_is.f (List.replicate n 2) s t 1 = some true := by
  unfold party_is.f
  rw [if_pos (by decide), if_pos (by decide), List.length_replicate, decide_eq_true (by omega), decide_eq_true (by omega)]
  exact ⟨rfl, rfl⟩

/-! ### Check -/
section
variable (n s t : Nat) (hn : 2 ≤ n) (hn2 : n ≤ 32) (hs : s ≤ 64) (ht : t ≤ 64)
include hn ht in
theorem chk4 (d : Nat) : ∀ i : Nat, t - i = d → i ≤ t → Ev (fun k => party_Check.l4 k (List.replicate t ti) (((List.replicate t ti).length : Nat) : Int) (i : Int) (List.replicate n 2) (List.replicate s st) (List.replicate t ti)) 0 := by
  rw [List.length_replicate]
  induction d with
  | zero =>
    intro i hd hi
    refine Ev.step (fun k => by simp only [party_Check.l4]; rfl) ?_
    have c : ¬ (i : Int) < (t : Int) := by omega
    simp only [c, if_false]
    exact Ev.now _
  | succ d ih =>
    intro i hd hi
    have h1 := ih (i + 1) (by omega) (by omega)
    have c : (i : Int) < (t : Int) := by omega
    have c0 : (0 : Int) ≤ (i : Int) := by omega
    have hlt : i < t := by omega
    obtain ⟨p0, p1⟩ := is_ok n hn (List.replicate s st) (List.replicate t ti)
    have e0 : ti.f0 = 0 := rfl
    have e1 : ti.f1 = 1 := rfl
    have e2 : ¬ ((0 : Int) = 1) := by decide
    refine Ev.step (fun k => by simp only [party_Check.l4]; rfl) ?_
    simp only [List.length_replicate, c, c0, if_true, rd_ti t i hlt, e0, e1, p0, p1, Option.bind_some, e2, if_false, next hlt (by omega)]
    exact h1
include hn hn2 hs ht in
theorem chk3 (d : Nat) : ∀ i : Nat, n - i = d → i ≤ n → Ev (fun k => party_Check.l3 k (vs n s) (((vs n s).length : Nat) : Int) (i : Int) (List.replicate n 2) (List.replicate s st) (List.replicate t ti)) 0 := by
  induction d with
  | zero =>
    intro i hd hi
    refine Ev.step (fun k => by simp only [party_Check.l3]; rfl) ?_
    have c : ¬ (i : Int) < (((vs n s).length : Nat) : Int) := by rw [vs_len]; omega
    simp only [c, if_false]
    exact chk4 n s t hn ht t 0 rfl (Nat.zero_le _)
  | succ d ih =>
    intro i hd hi
    have h1 := ih (i + 1) (by omega) (by omega)
    have c : (i : Int) < (((vs n s).length : Nat) : Int) := by rw [vs_len]; omega
    have c0 : (0 : Int) ≤ (i : Int) := by omega
    have hlt : i < n := by omega
    obtain ⟨m, hm, e⟩ := vs_any n s i hn hlt
    have e2 : ¬ ((-1 : Int) > 0) := by decide
    refine Ev.step (fun k => by simp only [party_Check.l3]; rfl) ?_
    simp only [c, c0, if_true, e, next hlt (by omega)]
    refine Ev.bind int1 (Ev.bind (cmp70 m (by omega)) ?_)
    simp only [e2, if_false]
    exact h1
include hn hn2 hs ht in
theorem chk2 (d : Nat) : ∀ i : Nat, s - i = d → i ≤ s → Ev (fun k => party_Check.l2 k (vs n i) (List.replicate s st) (((List.replicate s st).length : Nat) : Int) (i : Int) (List.replicate n 2) (List.replicate s st) (List.replicate t ti)) 0 := by
  induction d with
  | zero =>
    intro i hd hi
    obtain rfl : i = s := by omega
    refine Ev.step (fun k => by simp only [party_Check.l2]; rfl) ?_
    have c : ¬ (i : Int) < (((List.replicate i st).length : Nat) : Int) := by rw [List.length_replicate]; omega
    simp only [c, if_false]
    exact chk3 n i t hn hn2 hs ht n 0 rfl (Nat.zero_le _)
  | succ d ih =>
    intro i hd hi
    have h1 := ih (i + 1) (by omega) (by omega)
    have c : (i : Int) < (((List.replicate s st).length : Nat) : Int) := by rw [List.length_replicate]; omega
    have c0 : (0 : Int) ≤ (i : Int) := by omega
    have hlt : i < s := by omega
    have e1 : st.f1 = 1 := rfl
    have e2 : st.f2 = qs 70 1 := rfl
    have c1 : (0 : Int) ≤ 1 := by decide
    have c2 : (1 : Int) < (((vs n i).length : Nat) : Int) := by rw [vs_len]; omega
    refine Ev.step (fun k => by simp only [party_Check.l2]; rfl) ?_
    simp only [c, c0, if_true, rd_st s i hlt, e1, e2, c1, c2, vs_one n i hn, next hlt (by omega)]
    refine Ev.bind (add70 i (by omega)) ?_
    have e3 : (vs n i).set (1 : Int).toNat (⟨(tup (qs 70 (i + 1))).1, (tup (qs 70 (i + 1))).2.1, (tup (qs 70 (i + 1))).2.2⟩ : S33) = vs n (i + 1) := vs_next n i (i + 1)
    rw [e3]
    exact h1
include hn hn2 hs ht in
theorem chk1 (d : Nat) : ∀ i : Nat, s - i = d → i ≤ s → Ev (fun k => party_Check.l1 k (List.replicate s st) (((List.replicate s st).length : Nat) : Int) (i : Int) (List.replicate n 2) (List.replicate s st) (List.replicate t ti)) 0 := by
  induction d with
  | zero =>
    intro i hd hi
    refine Ev.step (fun k => by simp only [party_Check.l1]; rfl) ?_
    have c : ¬ (i : Int) < (((List.replicate s st).length : Nat) : Int) := by rw [List.length_replicate]; omega
    have c1 : (0 : Int) ≤ (((List.replicate n (2 : Int)).length : Nat) : Int) := by omega
    have c2 : ((((List.replicate n (2 : Int)).length : Nat) : Int)).toNat ≤ 7036874417766 := by rw [List.length_replicate]; omega
    have e : List.replicate ((((List.replicate n (2 : Int)).length : Nat) : Int)).toNat z33 = vs n 0 := by rw [Int.toNat_natCast, List.length_replicate]; exact vs_zero n hn
    simp only [c, if_false, c1, if_true, c2, e]
    exact chk2 n s t hn hn2 hs ht s 0 rfl (Nat.zero_le _)
  | succ d ih =>
    intro i hd hi
    have h1 := ih (i + 1) (by omega) (by omega)
    have c : (i : Int) < (((List.replicate s st).length : Nat) : Int) := by rw [List.length_replicate]; omega
    have c0 : (0 : Int) ≤ (i : Int) := by omega
    have hlt : i < s := by omega
    have e0 : st.f0 = 0 := rfl
    have e1 : st.f1 = 1 := rfl
    have e2 : st.f2 = qs 70 1 := rfl
    obtain ⟨p0, p1⟩ := is_ok n hn (List.replicate s st) (List.replicate t ti)
    have c1 : (0 : Int) ≤ 1 := by decide
    have c2 : (1 : Int) < (((List.replicate n (2 : Int)).length : Nat) : Int) := by rw [List.length_replicate]; omega
    have c3 : rd (List.replicate n 2) 1 = 2 := rd_rep n 1 2 (by omega)
    have c4 : ((0 : Int) == 1) = false := rfl
    have c5 : ¬ ((1 : Int) ≤ 0) := by decide
    refine Ev.step (fun k => by simp only [party_Check.l1]; rfl) ?_
    simp only [c, c0, if_true, rd_st s i hlt, e0, e1, e2, p0, p1, Option.bind_some, c1, c2, c3, c4]
    refine Ev.step (fun k => by simp only [party_Check.j3]; rfl) ?_
    simp only [Bool.false_eq_true, if_false]
    refine Ev.bind sign70 ?_
    simp only [c5, if_false, next hlt (by omega)]
    exact h1
include hn hn2 hs ht in
theorem chk0 (d : Nat) : ∀ i : Nat, n - i = d → i ≤ n → Ev (fun k => party_Check.l0 k (List.replicate n 2) (((List.replicate n (2 : Int)).length : Nat) : Int) (i : Int) (List.replicate n 2) (List.replicate s st) (List.replicate t ti)) 0 := by
  induction d with
  | zero =>
    intro i hd hi
    refine Ev.step (fun k => by simp only [party_Check.l0]; rfl) ?_
    have c : ¬ (i : Int) < (((List.replicate n (2 : Int)).length : Nat) : Int) := by rw [List.length_replicate]; omega
    simp only [c, if_false]
    exact chk1 n s t hn hn2 hs ht s 0 rfl (Nat.zero_le _)
  | succ d ih =>
    intro i hd hi
    have h1 := ih (i + 1) (by omega) (by omega)
    have c : (i : Int) < (((List.replicate n (2 : Int)).length : Nat) : Int) := by rw [List.length_replicate]; omega
    have c0 : (0 : Int) ≤ (i : Int) := by omega
    have hlt : i < n := by omega
    have c1 : ¬ ((2 : Int) = 1) := by decide
    refine Ev.step (fun k => by simp only [party_Check.l0]; rfl) ?_
    simp only [c, c0, if_true, rd_rep n i 2 hlt, c1, if_false, next hlt (by omega)]
    exact h1
end
theorem check_small (n s t : Nat) (hn : 2 ≤ n) (hn2 : n ≤ 32) (hs : s ≤ 64) (ht : t ≤ 64) : Ev (fun k => party_Check.f k (List.replicate n 2) (List.replicate s st) (List.replicate t ti)) 0 := by
  unfold party_Check.f
  have c1 : ¬ (((List.replicate n (2 : Int)).length : Nat) : Int) > 32 := by rw [List.length_replicate]; omega
  have c2 : ¬ (((List.replicate s st).length : Nat) : Int) > 64 := by rw [List.length_replicate]; omega
  have c3 : ¬ (((List.replicate t ti).length : Nat) : Int) > 64 := by rw [List.length_replicate]; omega
  simp only [c1, c2, c3, if_false, decide_false]
  refine Ev.step (fun k => by simp only [party_Check.j0]; rfl) ?_
  simp only [Bool.false_eq_true, if_false]
  exact chk0 n s t hn hn2 hs ht n 0 rfl (Nat.zero_le _)
theorem check_long (n s t : Nat) (h : 32 < n ∨ 64 < s ∨ 64 < t) : Ev (fun k => party_Check.f k (List.replicate n 2) (List.replicate s st) (List.replicate t ti)) 2 := by
  have long : Ev (fun k => party_Check.j0 k true (List.replicate n 2) (List.replicate s st) (List.replicate t ti)) 2 := by
    refine Ev.step (fun k => by simp only [party_Check.j0]; rfl) ?_
    simp only [if_true]
    exact Ev.now _
  unfold party_Check.f
  by_cases c1 : (((List.replicate n (2 : Int)).length : Nat) : Int) > 32
  · simp only [c1, if_true]; exact long
  · simp only [c1, if_false]
    by_cases c2 : (((List.replicate s st).length : Nat) : Int) > 64
    · simp only [c2, if_true]; exact long
    · simp only [c2, if_false]
      rw [List.length_replicate] at c1 c2
      have c3 : (((List.replicate t ti).length : Nat) : Int) > 64 := by rw [List.length_replicate]; omega
      simp only [c3, decide_true]; exact long
set_option maxRecDepth 100000 in
theorem aw : Ev (fun k => insolvencylaw8_awake.f k) true := Ev.of (fun k => insolvencylaw8_awake.mono k) (k := 60) (by kernel_rfl)
/-! ### the law's own loops -/
theorem end_ok (n s t : Nat) (hn : 2 ≤ n) : Ev (fun k => if (((List.replicate n (2 : Int)).length : Nat) : Int) > 32 then (insolvencylaw8_PartyMany.j3 k 0 true (List.replicate n 2) (List.replicate s st) (List.replicate t ti)) else (if (((List.replicate s st).length : Nat) : Int) > 64 then (insolvencylaw8_PartyMany.j3 k 0 true (List.replicate n 2) (List.replicate s st) (List.replicate t ti)) else (insolvencylaw8_PartyMany.j3 k 0 (decide ((((List.replicate t ti).length : Nat) : Int) > 64)) (List.replicate n 2) (List.replicate s st) (List.replicate t ti)))) true := by
  have long : (32 < n ∨ 64 < s ∨ 64 < t) → Ev (fun k => insolvencylaw8_PartyMany.j3 k 0 true (List.replicate n 2) (List.replicate s st) (List.replicate t ti)) true := by
    intro h
    refine Ev.step (fun k => by simp only [insolvencylaw8_PartyMany.j3]; rfl) ?_
    simp only [if_true]
    refine Ev.bind aw ?_
    simp only [if_true]
    exact Ev.bind (check_long n s t h) (Ev.now _)
  by_cases c1 : (((List.replicate n (2 : Int)).length : Nat) : Int) > 32
  · simp only [c1, if_true]
    rw [List.length_replicate] at c1
    exact long (.inl (by omega))
  · simp only [c1, if_false]
    by_cases c2 : (((List.replicate s st).length : Nat) : Int) > 64
    · simp only [c2, if_true]
      rw [List.length_replicate] at c2
      exact long (.inr (.inl (by omega)))
    · simp only [c2, if_false]
      by_cases c3 : (((List.replicate t ti).length : Nat) : Int) > 64
      · simp only [c3, decide_true]
        rw [List.length_replicate] at c3
        exact long (.inr (.inr (by omega)))
      · simp only [c3, decide_false]
        rw [List.length_replicate] at c1 c2 c3
        refine Ev.step (fun k => by simp only [insolvencylaw8_PartyMany.j3]; rfl) ?_
        simp only [Bool.false_eq_true, if_false]
        refine Ev.bind aw ?_
        simp only [if_true]
        exact Ev.bind (check_small n s t hn (by omega) (by omega) (by omega)) (Ev.now _)
theorem rep_snoc {α : Type} (i : Nat) (x : α) : List.replicate i x ++ [x] = List.replicate (i + 1) x := List.replicate_succ'.symm
theorem mod_of (a : Int) (m : Int) (h0 : 0 ≤ a) (h1 : a ≤ 255) (hm : 0 < m) : wrap64 (Int.tmod a m) = ((a % m).toNat : Int) := by
  have e1 := Int.emod_nonneg a (show m ≠ 0 by omega)
  have e2 : a % m ≤ a := by
    have := Int.emod_add_mul_ediv a m
    have h3 := Int.ediv_nonneg h0 (show 0 ≤ m by omega)
    have h4 := Int.mul_nonneg (show 0 ≤ m by omega) h3
    omega
  rw [Int.tmod_eq_emod_of_nonneg h0, w64 (by omega) (by omega)]
  omega
theorem law2 (n s t : Nat) (hn : 2 ≤ n) (ht : t < 70) (a2 : Int) (e : wrap64 (Int.tmod a2 70) = (t : Int)) (d : Nat) : ∀ i : Nat, t - i = d → i ≤ t → Ev (fun k => insolvencylaw8_PartyMany.l2 k a2 (i : Int) (List.replicate n 2) (List.replicate s st) (List.replicate i ti)) true := by
  induction d with
  | zero =>
    intro i hd hi
    obtain rfl : i = t := by omega
    refine Ev.step (fun k => by simp only [insolvencylaw8_PartyMany.l2]; rfl) ?_
    have c : ¬ (i : Int) < (i : Int) := Int.lt_irrefl _
    rw [e]
    simp only [c, if_false]
    exact end_ok n s i hn
  | succ d ih =>
    intro i hd hi
    have hlt : i < t := by omega
    have h1 := ih (i + 1) (by omega) (by omega)
    refine Ev.step (fun k => by simp only [insolvencylaw8_PartyMany.l2]; rfl) ?_
    have c : (i : Int) < (t : Int) := by clear e; omega
    have c1 : (List.replicate i ti).length < 8796093022208 := by clear e; rw [List.length_replicate]; omega
    have e2 : List.replicate i ti ++ [(⟨0, 1⟩ : S38)] = List.replicate (i + 1) ti := rep_snoc i ti
    rw [e]
    simp only [c, c1, if_true, e2, next hlt (by clear e; omega)]
    exact h1
theorem law1 (n s t : Nat) (hn : 2 ≤ n) (hs : s < 70) (ht : t < 70) (a1 a2 : Int) (e1 : wrap64 (Int.tmod a1 70) = (s : Int)) (e : wrap64 (Int.tmod a2 70) = (t : Int)) (d : Nat) : ∀ i : Nat, s - i = d → i ≤ s → Ev (fun k => insolvencylaw8_PartyMany.l1 k a1 a2 (i : Int) (List.replicate n 2) (List.replicate i st)) true := by
  induction d with
  | zero =>
    intro i hd hi
    obtain rfl : i = s := by omega
    refine Ev.step (fun k => by simp only [insolvencylaw8_PartyMany.l1]; rfl) ?_
    have c : ¬ (i : Int) < (i : Int) := Int.lt_irrefl _
    rw [e1]
    simp only [c, if_false]
    exact law2 n i t hn ht a2 e t 0 rfl (Nat.zero_le _)
  | succ d ih =>
    intro i hd hi
    have hlt : i < s := by clear e e1; omega
    have h1 := ih (i + 1) (by clear e e1; omega) (by clear e e1; omega)
    refine Ev.step (fun k => by simp only [insolvencylaw8_PartyMany.l1]; rfl) ?_
    have c : (i : Int) < (s : Int) := by clear e e1; omega
    have c1 : (List.replicate i st).length < 2513169434916 := by clear e e1; rw [List.length_replicate]; omega
    have e2 : List.replicate i st ++ [(⟨0, 1, (⟨(tup (qs 70 1)).1, (tup (qs 70 1)).2.1, (tup (qs 70 1)).2.2⟩ : S33)⟩ : S36)] = List.replicate (i + 1) st := rep_snoc i st
    rw [e1]
    simp only [c, if_true]
    refine Ev.bind ratio70 ?_
    simp only [c1, if_true, next hlt (by clear e e1; omega)]
    rw [e2]
    exact h1
theorem law0 (n s t : Nat) (hn : 2 ≤ n) (hn2 : n < 42) (hs : s < 70) (ht : t < 70) (a0 a1 a2 : Int) (e0 : wrap64 (2 + wrap64 (Int.tmod a0 40)) = (n : Int)) (e1 : wrap64 (Int.tmod a1 70) = (s : Int)) (e : wrap64 (Int.tmod a2 70) = (t : Int)) (d : Nat) : ∀ i : Nat, n - i = d → i ≤ n → Ev (fun k => insolvencylaw8_PartyMany.l0 k a0 a1 a2 (i : Int) (List.replicate i 2)) true := by
  induction d with
  | zero =>
    intro i hd hi
    obtain rfl : i = n := by clear e e1 e0; omega
    refine Ev.step (fun k => by simp only [insolvencylaw8_PartyMany.l0]; rfl) ?_
    have c : ¬ (i : Int) < (i : Int) := Int.lt_irrefl _
    rw [e0]
    simp only [c, if_false]
    exact law1 i s t hn hs ht a1 a2 e1 e s 0 rfl (Nat.zero_le _)
  | succ d ih =>
    intro i hd hi
    have hlt : i < n := by clear e e1 e0; omega
    have h1 := ih (i + 1) (by clear e e1 e0; omega) (by clear e e1 e0; omega)
    refine Ev.step (fun k => by simp only [insolvencylaw8_PartyMany.l0]; rfl) ?_
    have c : (i : Int) < (n : Int) := by clear e e1 e0; omega
    have c1 : (List.replicate i (2 : Int)).length < 17592186044416 := by clear e e1 e0; rw [List.length_replicate]; omega
    rw [e0]
    simp only [c, c1, if_true, rep_snoc, next hlt (by clear e e1 e0; omega)]
    exact h1
theorem u8_bd {a : Int} (h : (Lit.int .u8 a).wf = true) : 0 ≤ a ∧ a ≤ 255 := Go.bounds_u8 h
theorem PartyMany : insolvencylaw8_PartyMany.Pure := by
  intro a0 a1 a2 h0 h1 h2
  obtain ⟨b0, b1⟩ := u8_bd h0
  obtain ⟨c0, c1⟩ := u8_bd h1
  obtain ⟨d0, d1⟩ := u8_bd h2
  refine Ev.rounds ?_
  unfold insolvencylaw8_PartyMany.f
  have e0 := mod_of a0 40 b0 b1 (by decide)
  have e1 := mod_of a1 70 c0 c1 (by decide)
  have e2 := mod_of a2 70 d0 d1 (by decide)
  have k0 : wrap64 (2 + wrap64 (Int.tmod a0 40)) = ((2 + (a0 % 40).toNat : Nat) : Int) := by
    rw [e0]; clear e0 e1 e2; rw [w64 (by omega) (by omega)]; omega
  exact law0 (2 + (a0 % 40).toNat) (a1 % 70).toNat (a2 % 70).toNat (by clear e0 e1 e2 k0; omega) (by clear e0 e1 e2 k0; omega) (by clear e0 e1 e2 k0; omega) (by clear e0 e1 e2 k0; omega) a0 a1 a2 k0 e1 e2 _ 0 rfl (Nat.zero_le _)
end Go.Proofs.YtjeamaahhpbbkaaDoor.Pure
