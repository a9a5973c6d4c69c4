/- Who is controlled: party.controlled at parties whose votes are tenths: the least set that is closed. -/
import Derived.Test.YtjeamaahhpbbkaaDoorPBTab
import Derived.Test.YtjeamaahhpbbkaaDoorPAllx14
namespace Go.Proofs.YtjeamaahhpbbkaaDoor.PB
open Go.RowKit Go.Proofs.YtjeamaahhpbbkaaDoorW.PrintWords Go.Proofs.YtjeamaahhpbbkaaDoor.PAll

theorem w64 {x : Int} (h0 : -9223372036854775808 ≤ x) (h1 : x ≤ 9223372036854775807) : wrap64 x = x := by unfold wrap64; omega
theorem nxt {i n : Nat} (h : i < n) (hn : n ≤ 1000) : wrap64 ((i : Int) + 1) = ((i + 1 : Nat) : Int) := by rw [w64 (by omega) (by omega)]; omega
/-- A stake: owner, company, tenths. -/
abbrev Sk := Nat × Nat × Nat
def mk (x : Sk) : S36 := ⟨(x.1 : Int), (x.2.1 : Int), qs x.2.2⟩
/-- The votes in c of the owners of p. -/
def vt (p : Nat → Bool) (c : Nat) : List Sk → Nat
  | [] => 0
  | x :: L => (if p x.1 = true ∧ x.2.1 = c then x.2.2 else 0) + vt p c L
theorem vt_app (p : Nat → Bool) (c : Nat) (L M : List Sk) : vt p c (L ++ M) = vt p c L + vt p c M := by
  induction L with
  | nil => simp [vt]
  | cons x L ih => simp only [List.cons_append, vt, ih]; omega
theorem vt_mono {p q : Nat → Bool} (c : Nat) (L : List Sk) (h : ∀ x ∈ L, p x.1 = true → q x.1 = true) : vt p c L ≤ vt q c L := by
  induction L with
  | nil => exact Nat.le_refl _
  | cons x L ih =>
    have h1 := ih (fun y hy => h y (List.mem_cons_of_mem _ hy))
    have h2 := h x List.mem_cons_self
    simp only [vt]
    by_cases c1 : p x.1 = true ∧ x.2.1 = c
    · rw [if_pos c1, if_pos ⟨h2 c1.1, c1.2⟩]; omega
    · rw [if_neg c1]; omega
theorem vt_take (p : Nat → Bool) (c : Nat) (L : List Sk) (i : Nat) (h : i < L.length) : vt p c (L.take (i + 1)) = vt p c (L.take i) + (if p L[i].1 = true ∧ L[i].2.1 = c then L[i].2.2 else 0) := by
  rw [List.take_succ_eq_append_getElem h, vt_app]
  simp only [vt, Nat.add_zero]
theorem vt_take_le (p : Nat → Bool) (c : Nat) (L : List Sk) (i : Nat) : vt p c (L.take i) ≤ vt p c L := by
  have h := vt_app p c (L.take i) (L.drop i)
  rw [List.take_append_drop] at h
  omega
structure GoodS (N : Nat) (K : List Int) (L : List Sk) : Prop where
  o : ∀ x ∈ L, x.1 < N ∧ x.2.1 < N ∧ x.1 ≠ x.2.1 ∧ K.getD x.2.1 0 = 2 ∧ 1 ≤ x.2.2 ∧ x.2.2 ≤ 7
  sum : ∀ c, vt (fun _ => true) c L ≤ 10
  len : L.length ≤ 20
theorem GoodS.le {N : Nat} {K : List Int} {L : List Sk} (h : GoodS N K L) (p : Nat → Bool) (c i : Nat) : vt p c (L.take i) ≤ 10 :=
  Nat.le_trans (vt_take_le p c L i) (Nat.le_trans (vt_mono c L (fun _ _ _ => rfl)) (h.sum c))
/-- The votes of each party behind i stakes. -/
def vec (N : Nat) (p : Nat → Bool) (L : List Sk) (i : Nat) : List S33 := (List.range N).map (fun c => qs (vt p c (L.take i)))
theorem vec_len (N : Nat) (p : Nat → Bool) (L : List Sk) (i : Nat) : (vec N p L i).length = N := by unfold vec; rw [List.length_map, List.length_range]
theorem vec_rd (N : Nat) (p : Nat → Bool) (L : List Sk) (i c : Nat) (h : c < N) : rd_T33 (vec N p L i) (c : Int) = qs (vt p c (L.take i)) := by
  show (vec N p L i).getD (Int.toNat (c : Int)) z33 = _
  unfold vec
  rw [Int.toNat_natCast, List.getD_eq_getElem?_getD, List.getElem?_map, List.getElem?_range h]; rfl
theorem vec_zero (N : Nat) (p : Nat → Bool) (L : List Sk) : List.replicate N z33 = vec N p L 0 := by
  unfold vec
  rw [List.take_zero]
  refine List.ext_getElem? fun j => ?_
  rw [List.getElem?_map]
  by_cases h : j < N
  · rw [List.getElem?_replicate_of_lt h, List.getElem?_range h]; rfl
  · rw [List.getElem?_eq_none (by rw [List.length_replicate]; omega), List.getElem?_eq_none (l := List.range N) (by rw [List.length_range]; omega)]; rfl
theorem vec_put (N : Nat) (p : Nat → Bool) (L : List Sk) (i : Nat) (h : i < L.length) (hp : p L[i].1 = true) : (vec N p L i).set L[i].2.1 (qs (vt p L[i].2.1 (L.take i) + L[i].2.2)) = vec N p L (i + 1) := by
  refine List.ext_getElem? fun j => ?_
  by_cases hj : j < N
  · have e : (vec N p L (i + 1))[j]? = some (qs (vt p j (L.take (i + 1)))) := by unfold vec; rw [List.getElem?_map, List.getElem?_range hj]; rfl
    rw [e, vt_take p j L i h]
    by_cases c : L[i].2.1 = j
    · subst c
      rw [List.getElem?_set_self (by rw [vec_len]; exact hj), if_pos ⟨hp, rfl⟩]
    · rw [List.getElem?_set_ne c, if_neg (fun h => c h.2), Nat.add_zero]
      unfold vec; rw [List.getElem?_map, List.getElem?_range hj]; rfl
  · rw [List.getElem?_eq_none (by rw [List.length_set, vec_len]; omega), List.getElem?_eq_none (by rw [vec_len]; omega)]
theorem vec_skip (N : Nat) (p : Nat → Bool) (L : List Sk) (i : Nat) (h : i < L.length) (hp : ¬ p L[i].1 = true) : vec N p L i = vec N p L (i + 1) := by
  unfold vec
  refine List.map_congr_left fun c _ => ?_
  rw [vt_take p c L i h, if_neg (fun h => hp h.1), Nat.add_zero]
theorem mk_rd (L : List Sk) (i : Nat) (h : i < L.length) : rd_T36 (L.map mk) (i : Int) = mk L[i] := by
  show (L.map mk).getD (Int.toNat (i : Int)) z36 = _
  rw [Int.toNat_natCast, List.getD_eq_getElem?_getD, List.getElem?_map, List.getElem?_eq_getElem h]; rfl
/-- A set of parties as a list of bools. -/
def tb (N : Nat) (s : Nat → Bool) : List Bool := (List.range N).map s
theorem tb_len (N : Nat) (s : Nat → Bool) : (tb N s).length = N := by unfold tb; rw [List.length_map, List.length_range]
theorem tb_rd (N : Nat) (s : Nat → Bool) (c : Nat) (h : c < N) : rdOf false (tb N s) (c : Int) = s c := by
  show (tb N s).getD (Int.toNat (c : Int)) false = _
  unfold tb
  rw [Int.toNat_natCast, List.getD_eq_getElem?_getD, List.getElem?_map, List.getElem?_range h]; rfl
theorem tb_set (N : Nat) (s : Nat → Bool) (c : Nat) : (tb N s).set c true = tb N (fun j => decide (j = c) || s j) := by
  refine List.ext_getElem? fun j => ?_
  by_cases hj : j < N
  · have e : (tb N (fun j => decide (j = c) || s j))[j]? = some (decide (j = c) || s j) := by unfold tb; rw [List.getElem?_map, List.getElem?_range hj]; rfl
    rw [e]
    by_cases h : c = j
    · subst h
      rw [List.getElem?_set_self (by rw [tb_len]; exact hj), decide_eq_true rfl]; rfl
    · rw [List.getElem?_set_ne h, decide_eq_false (fun h2 => h h2.symm)]
      unfold tb; rw [List.getElem?_map, List.getElem?_range hj]; rfl
  · rw [List.getElem?_eq_none (by rw [List.length_set, tb_len]; omega), List.getElem?_eq_none (by rw [tb_len]; omega)]
theorem tb_congr (N : Nat) (s t : Nat → Bool) (h : ∀ j, j < N → s j = t j) : tb N s = tb N t := by
  unfold tb
  exact List.map_congr_left fun c hc => h c (List.mem_range.1 hc)
/-- The owner and its companies. -/
def pp (a : Nat) (s : Nat → Bool) (o : Nat) : Bool := decide (o = a) || s o
/-- One round. -/
def nx (a : Nat) (L : List Sk) (s : Nat → Bool) (j : Nat) : Bool := s j || (decide (j ≠ a) && decide (5 < vt (pp a s) j L))
def upto (s t : Nat → Bool) (c j : Nat) : Bool := if j < c then t j else s j
/-- Closed sets. -/
def Closed (N a : Nat) (L : List Sk) (X : Nat → Bool) : Prop := ∀ j, j < N → j ≠ a → 5 < vt (pp a X) j L → X j = true
/-- What the rounds end with. -/
structure Fin (N a : Nat) (L : List Sk) (t : Nat → Bool) : Prop where
  own : ∀ j, j < N → (t j = true ↔ j ≠ a ∧ 5 < vt (pp a t) j L)
  least : ∀ X, Closed N a L X → ∀ j, j < N → t j = true → X j = true
section
variable {N : Nat} {K : List Int} {L : List Sk} (g : GoodS N K L) (hN : N ≤ 7) (hK : K.length = N) (a : Nat) (T : List S38)
theorem pp_mono {s t : Nat → Bool} (a : Nat) (h : ∀ j, j < N → s j = true → t j = true) (g : GoodS N K L) (c : Nat) : vt (pp a s) c L ≤ vt (pp a t) c L := by
  refine vt_mono c L fun x hx hp => ?_
  unfold pp at hp ⊢
  rw [Bool.or_eq_true] at hp ⊢
  exact hp.imp id (h x.1 (g.o x hx).1)
include g in
/-- The votes of a round. -/
theorem ctl1 (s : Nat → Bool) (fl : Bool) (r : List Bool) (hend : Ev (fun k => party_controlled.l2 k (a : Int) (tb N s) fl (vec N (pp a s) L L.length) (N : Int) 0 K (L.map mk) T) r) (d : Nat) : ∀ i : Nat, L.length - i = d → i ≤ L.length →
    Ev (fun k => party_controlled.l1 k (a : Int) (tb N s) fl (vec N (pp a s) L i) (L.map mk) (((L.map mk).length : Nat) : Int) (i : Int) K (L.map mk) T) r := by
  induction d with
  | zero =>
    intro i hd hi
    obtain rfl : i = L.length := by omega
    refine Ev.step (fun k => by simp only [party_controlled.l1]; rfl) ?_
    have c : ¬ ((L.length : Nat) : Int) < (((L.map mk).length : Nat) : Int) := by rw [List.length_map]; omega
    simp only [c, if_false, vec_len]
    exact hend
  | succ d ih =>
    intro i hd hi
    have hlt : i < L.length := by omega
    have h1 := ih (i + 1) (by omega) (by omega)
    have hg := g.o L[i] (List.getElem_mem hlt)
    have hl := g.len
    have c : ((i : Nat) : Int) < (((L.map mk).length : Nat) : Int) := by rw [List.length_map]; omega
    have c0 : (0 : Int) ≤ (i : Int) := by omega
    have hsum := g.le (pp a s) L[i].2.1 (i + 1)
    refine Ev.step (fun k => by simp only [party_controlled.l1]; rfl) ?_
    simp only [c, c0, if_true, mk_rd L i hlt, nxt hlt (by omega)]
    have f0 : (mk L[i]).f0 = (L[i].1 : Int) := rfl
    have f1 : (mk L[i]).f1 = (L[i].2.1 : Int) := rfl
    have f2 : (mk L[i]).f2 = qs L[i].2.2 := rfl
    have d0 : (0 : Int) ≤ (L[i].2.1 : Int) := by omega
    have d1 : (L[i].2.1 : Int) < (((vec N (pp a s) L i).length : Nat) : Int) := by rw [vec_len]; omega
    have d2 : (0 : Int) ≤ (L[i].1 : Int) := by omega
    have d3 : (L[i].1 : Int) < (((tb N s).length : Nat) : Int) := by rw [tb_len]; omega
    have put : pp a s L[i].1 = true → Ev (fun k => (rational_Add.f k (qs (vt (pp a s) L[i].2.1 (L.take i))).f0 (qs (vt (pp a s) L[i].2.1 (L.take i))).f1 (qs (vt (pp a s) L[i].2.1 (L.take i))).f2 (qs L[i].2.2).f0 (qs L[i].2.2).f1 (qs L[i].2.2).f2).bind fun bt => party_controlled.l1 k (a : Int) (tb N s) fl ((vec N (pp a s) L i).set L[i].2.1 (⟨bt.1, bt.2.1, bt.2.2⟩ : S33)) (L.map mk) (((L.map mk).length : Nat) : Int) ((i + 1 : Nat) : Int) K (L.map mk) T) r := by
      intro hp
      rw [vt_take _ _ _ _ hlt, if_pos ⟨hp, rfl⟩] at hsum
      refine Ev.bind (add10 _ _ hg.2.2.2.2.1 hg.2.2.2.2.2 hsum) ?_
      have e : (vec N (pp a s) L i).set L[i].2.1 (⟨(tup (qs (vt (pp a s) L[i].2.1 (L.take i) + L[i].2.2))).1, (tup (qs (vt (pp a s) L[i].2.1 (L.take i) + L[i].2.2))).2.1, (tup (qs (vt (pp a s) L[i].2.1 (L.take i) + L[i].2.2))).2.2⟩ : S33) = vec N (pp a s) L (i + 1) := vec_put N (pp a s) L i hlt hp
      rw [e]
      exact h1
    simp only [f0, f1, f2, d0, d1, d2, d3, if_true, vec_rd N (pp a s) L i L[i].2.1 hg.2.1, tb_rd N s L[i].1 hg.1, Int.toNat_natCast]
    by_cases ha : (L[i].1 : Int) = (a : Int)
    · simp only [ha, if_true]
      exact put (by unfold pp; rw [decide_eq_true (by omega)]; rfl)
    · simp only [ha, if_false]
      by_cases hs : s L[i].1 = true
      · simp only [hs, if_true]
        exact put (by unfold pp; rw [hs, Bool.or_true])
      · simp only [hs]
        rw [vec_skip N (pp a s) L i hlt (by unfold pp; rw [Bool.or_eq_true, decide_eq_true_eq]; exact fun h => h.elim (fun h => ha (by omega)) hs)]
        exact h1
include g hN in
/-- The companies of a round. -/
theorem ctl2 (s : Nat → Bool) (r : List Bool) (d : Nat) : ∀ (c : Nat) (fl : Bool), N - c = d → c ≤ N →
    Ev (fun k => party_controlled.l0 k (a : Int) (tb N (nx a L s)) (fl || (List.range' c d).any (fun j => nx a L s j && !s j)) K (L.map mk) T) r →
    Ev (fun k => party_controlled.l2 k (a : Int) (tb N (upto s (nx a L s) c)) fl (vec N (pp a s) L L.length) (N : Int) (c : Int) K (L.map mk) T) r := by
  induction d with
  | zero =>
    intro c fl hd hc hend
    obtain rfl : c = N := by omega
    refine Ev.step (fun k => by simp only [party_controlled.l2]; rfl) ?_
    have h1 : ¬ (c : Int) < (c : Int) := Int.lt_irrefl _
    have e : tb c (upto s (nx a L s) c) = tb c (nx a L s) := tb_congr _ _ _ fun j hj => by unfold upto; rw [if_pos hj]
    simp only [h1, if_false, e]
    simp only [List.range'_zero, List.any_nil, Bool.or_false] at hend
    exact hend
  | succ d ih =>
    intro c fl hd hc hend
    have hlt : c < N := by omega
    have h1 : (c : Int) < (N : Int) := by omega
    have h0 : (0 : Int) ≤ (c : Int) := by omega
    have h2 : (c : Int) < (((vec N (pp a s) L L.length).length : Nat) : Int) := by rw [vec_len]; omega
    have h3 : (c : Int) < (((tb N (upto s (nx a L s) c)).length : Nat) : Int) := by rw [tb_len]; omega
    have hu : upto s (nx a L s) c c = s c := by unfold upto; rw [if_neg (Nat.lt_irrefl _)]
    have hv := g.le (pp a s) c L.length
    rw [List.take_length] at hv
    rw [List.range'_succ, List.any_cons, ← Bool.or_assoc] at hend
    have step : ∀ fl', nx a L s c = s c → fl' = fl → Ev (fun k => party_controlled.l2 k (a : Int) (tb N (upto s (nx a L s) c)) fl' (vec N (pp a s) L L.length) (N : Int) ((c + 1 : Nat) : Int) K (L.map mk) T) r := by
      intro fl' e1 e2
      subst e2
      have e3 : tb N (upto s (nx a L s) c) = tb N (upto s (nx a L s) (c + 1)) := tb_congr _ _ _ fun j _ => by
        unfold upto
        by_cases hj : j < c
        · rw [if_pos hj, if_pos (by omega)]
        · rw [if_neg hj]
          by_cases hj2 : j < c + 1
          · obtain rfl : j = c := by omega
            rw [if_pos hj2, e1]
          · rw [if_neg hj2]
      rw [e3]
      refine ih (c + 1) fl' (by omega) (by omega) ?_
      rw [e1] at hend
      have e4 : (s c && !s c) = false := by cases s c <;> rfl
      rw [e4, Bool.or_false] at hend
      exact hend
    refine Ev.step (fun k => by simp only [party_controlled.l2]; rfl) ?_
    simp only [h0, h1, h2, h3, if_true, tb_rd N (upto s (nx a L s) c) c hlt, hu, nxt hlt (by omega)]
    by_cases ha : (c : Int) = (a : Int)
    · simp only [ha, if_true]
      refine step fl ?_ rfl
      unfold nx
      rw [decide_eq_false (show ¬ c ≠ a from fun h => h (by omega)), Bool.false_and, Bool.or_false]
    · simp only [ha, if_false]
      by_cases hs : s c = true
      · simp only [hs, if_true]
        refine step fl ?_ rfl
        unfold nx
        rw [hs, Bool.true_or]
      · simp only [hs]
        refine Ev.bind half_ev ?_
        have e5 : rd_T33 (vec N (pp a s) L L.length) (c : Int) = qs (vt (pp a s) c L) := by rw [vec_rd _ _ _ _ _ hlt, List.take_length]
        simp only [e5]
        refine Ev.bind (cmp5 _ hv) ?_
        have hnx : nx a L s c = decide (5 < vt (pp a s) c L) := by
          unfold nx
          rw [Bool.eq_false_iff.2 hs, Bool.false_or, decide_eq_true (show c ≠ a from fun h => ha (by omega)), Bool.true_and]
        by_cases hc5 : 5 < vt (pp a s) c L
        · have h6 : sg (vt (pp a s) c L) 5 > 0 := (sg5 _).2 hc5
          simp only [h6, if_true, Int.toNat_natCast]
          have e3 : (tb N (upto s (nx a L s) c)).set c true = tb N (upto s (nx a L s) (c + 1)) := by
            rw [tb_set]
            refine tb_congr _ _ _ fun j _ => ?_
            unfold upto
            by_cases hj : j = c
            · subst hj
              rw [decide_eq_true rfl, Bool.true_or, if_pos (show j < j + 1 by omega), hnx, decide_eq_true hc5]
            · rw [decide_eq_false hj, Bool.false_or]
              by_cases hj2 : j < c
              · rw [if_pos hj2, if_pos (by omega)]
              · rw [if_neg hj2, if_neg (by omega)]
          rw [e3]
          refine ih (c + 1) true (by omega) (by omega) ?_
          rw [hnx, decide_eq_true hc5, Bool.eq_false_iff.2 hs] at hend
          simpa using hend
        · have h6 : ¬ sg (vt (pp a s) c L) 5 > 0 := fun h => hc5 ((sg5 _).1 h)
          simp only [h6, if_false]
          exact step fl (by rw [hnx, decide_eq_false hc5, Bool.eq_false_iff.2 hs]) rfl
/-- Fewer are left. -/
def left (N : Nat) (s : Nat → Bool) : Nat := ((List.range N).filter (fun j => !s j)).length
theorem filter_lt {α : Type} (l : List α) (f h : α → Bool) (hle : ∀ x ∈ l, f x = true → h x = true) (hx : ∃ x ∈ l, h x = true ∧ ¬ f x = true) : (l.filter f).length < (l.filter h).length := by
  induction l with
  | nil => obtain ⟨x, hx, _⟩ := hx; cases hx
  | cons y l ih =>
    have hle' : ∀ x ∈ l, f x = true → h x = true := fun x hx => hle x (List.mem_cons_of_mem _ hx)
    have le : (l.filter f).length ≤ (l.filter h).length := by
      clear ih hx hle
      induction l with
      | nil => exact Nat.le_refl _
      | cons z l ih2 =>
        have h3 := ih2 (fun x hx => hle' x (List.mem_cons_of_mem _ hx))
        have h4 := hle' z List.mem_cons_self
        rw [List.filter_cons, List.filter_cons]
        by_cases c : f z = true
        · rw [if_pos c, if_pos (h4 c)]; simp only [List.length_cons]; omega
        · rw [if_neg c]; split <;> (try simp only [List.length_cons]) <;> omega
    rw [List.filter_cons, List.filter_cons]
    obtain ⟨x, hx, h1, h2⟩ := hx
    rcases List.mem_cons.1 hx with rfl | hx
    · rw [if_neg h2, if_pos h1]; simp only [List.length_cons]; omega
    · have h5 := ih hle' ⟨x, hx, h1, h2⟩
      have h4 := hle y List.mem_cons_self
      by_cases c : f y = true
      · rw [if_pos c, if_pos (h4 c)]; simp only [List.length_cons]; omega
      · rw [if_neg c]; split <;> (try simp only [List.length_cons]) <;> omega
structure Inv (N a : Nat) (L : List Sk) (s : Nat → Bool) : Prop where
  own : ∀ j, j < N → s j = true → j ≠ a ∧ 5 < vt (pp a s) j L
  least : ∀ X, Closed N a L X → ∀ j, j < N → s j = true → X j = true
include g in
theorem Inv.next {s : Nat → Bool} (h : Inv N a L s) : Inv N a L (nx a L s) := by
  have hsub : ∀ j, j < N → s j = true → nx a L s j = true := fun j _ hj => by unfold nx; rw [hj, Bool.true_or]
  refine ⟨fun j hj hn => ?_, fun X hX j hj hn => ?_⟩
  · have hm := pp_mono a hsub g j
    by_cases hs : s j = true
    · have := h.own j hj hs
      exact ⟨this.1, by omega⟩
    · unfold nx at hn
      rw [Bool.eq_false_iff.2 hs, Bool.false_or, Bool.and_eq_true, decide_eq_true_eq, decide_eq_true_eq] at hn
      exact ⟨hn.1, by omega⟩
  · by_cases hs : s j = true
    · exact h.least X hX j hj hs
    · unfold nx at hn
      rw [Bool.eq_false_iff.2 hs, Bool.false_or, Bool.and_eq_true, decide_eq_true_eq, decide_eq_true_eq] at hn
      have hm := pp_mono a (fun j hj hs => h.least X hX j hj hs) g j
      exact hX j hj hn.1 (by omega)
include g hN hK in
theorem ctlR (s : Nat → Bool) (r : List Bool) (h : Ev (fun k => party_controlled.l0 k (a : Int) (tb N (nx a L s)) (false || (List.range' 0 N).any (fun j => nx a L s j && !s j)) K (L.map mk) T) r) :
    Ev (fun k => party_controlled.l0 k (a : Int) (tb N s) true K (L.map mk) T) r := by
  refine Ev.step (fun k => by simp only [party_controlled.l0]; rfl) ?_
  have c1 : (0 : Int) ≤ ((K.length : Nat) : Int) := by omega
  have c2 : (((K.length : Nat) : Int)).toNat ≤ 7036874417766 := by omega
  have e : List.replicate (((K.length : Nat) : Int)).toNat z33 = vec N (pp a s) L 0 := by rw [Int.toNat_natCast, hK]; exact vec_zero N (pp a s) L
  simp only [if_true, c1, c2, e]
  refine ctl1 g a T s false r ?_ L.length 0 rfl (Nat.zero_le _)
  have h2 := ctl2 g hN a T s r N 0 false rfl (Nat.zero_le _) h
  have e2 : tb N (upto s (nx a L s) 0) = tb N s := tb_congr _ _ _ fun j _ => by unfold upto; rw [if_neg (Nat.not_lt_zero _)]
  rw [e2] at h2
  exact h2
include g hN hK in
theorem ctl0 (d : Nat) : ∀ s : Nat → Bool, left N s ≤ d → Inv N a L s → ∃ t, Ev (fun k => party_controlled.l0 k (a : Int) (tb N s) true K (L.map mk) T) (tb N t) ∧ Fin N a L t := by
  induction d with
  | zero =>
    intro s hd hI
    have hall : ∀ j, j < N → s j = true := by
      intro j hj
      by_cases h : s j = true
      · exact h
      · have : j ∈ (List.range N).filter (fun j => !s j) := List.mem_filter.2 ⟨List.mem_range.2 hj, by rw [Bool.eq_false_iff.2 h]; rfl⟩
        have := List.length_pos_of_mem this
        unfold left at hd
        omega
    refine ⟨s, ?_, fun j hj => ⟨hI.own j hj, fun _ => hall j hj⟩, hI.least⟩
    have hn : tb N (nx a L s) = tb N s := tb_congr _ _ _ fun j hj => by unfold nx; rw [hall j hj, Bool.true_or]
    have hf : (List.range' 0 N).any (fun j => nx a L s j && !s j) = false := by
      rw [List.any_eq_false]
      intro j hj
      rw [List.mem_range'_1] at hj
      rw [hall j (by omega)]
      simp
    refine ctlR g hN hK a T s _ ?_
    rw [hn, Bool.false_or, hf]
    refine Ev.step (fun k => by simp only [party_controlled.l0]; rfl) ?_
    simp only [Bool.false_eq_true, if_false]
    exact Ev.now _
  | succ d ih =>
    intro s hd hI
    cases hf : (List.range' 0 N).any (fun j => nx a L s j && !s j) with
    | false =>
      have heq : ∀ j, j < N → nx a L s j = s j := by
        intro j hj
        have := List.any_eq_false.1 hf j (by rw [List.mem_range'_1]; omega)
        unfold nx at this ⊢
        cases hs : s j
        · rw [hs] at this; simpa using this
        · rfl
      refine ⟨s, ctlR g hN hK a T s _ ?_, fun j hj => ⟨hI.own j hj, fun h => ?_⟩, hI.least⟩
      · rw [tb_congr N _ _ heq, Bool.false_or, hf]
        refine Ev.step (fun k => by simp only [party_controlled.l0]; rfl) ?_
        simp only [Bool.false_eq_true, if_false]
        exact Ev.now _
      · rw [← heq j hj]
        unfold nx
        rw [decide_eq_true h.1, decide_eq_true h.2, Bool.and_self, Bool.or_true]
    | true =>
      obtain ⟨j, hj, hj2⟩ := List.any_eq_true.1 hf
      rw [List.mem_range'_1] at hj
      rw [Bool.and_eq_true] at hj2
      have hlt : left N (nx a L s) < left N s := filter_lt _ _ _ (fun x _ hx => by
        unfold nx at hx
        cases hs : s x
        · rfl
        · rw [hs] at hx; simp at hx) ⟨j, List.mem_range.2 (by omega), hj2.2, by rw [hj2.1]; decide⟩
      obtain ⟨t, ht, hF⟩ := ih (nx a L s) (by omega) (hI.next g a)
      refine ⟨t, ctlR g hN hK a T s _ ?_, hF⟩
      rw [Bool.false_or, hf]
      exact ht
include g hN hK in
theorem controlled_ev : ∃ t, Ev (fun k => party_controlled.f k K (L.map mk) T (a : Int)) (tb N t) ∧ Fin N a L t := by
  obtain ⟨t, h1, h2⟩ := ctl0 g hN hK a T (left N (fun _ => false)) (fun _ => false) (Nat.le_refl _) ⟨fun _ _ h => (nomatch h), fun _ _ _ _ h => (nomatch h)⟩
  refine ⟨t, ?_, h2⟩
  unfold party_controlled.f
  have c1 : (0 : Int) ≤ ((K.length : Nat) : Int) := by omega
  have c2 : (((K.length : Nat) : Int)).toNat ≤ 281474976710656 := by omega
  have e : List.replicate (((K.length : Nat) : Int)).toNat false = tb N (fun _ => false) := by
    rw [Int.toNat_natCast, hK]
    unfold tb
    refine List.ext_getElem? fun j => ?_
    rw [List.getElem?_map]
    by_cases h : j < N
    · rw [List.getElem?_replicate_of_lt h, List.getElem?_range h]; rfl
    · rw [List.getElem?_eq_none (by rw [List.length_replicate]; omega), List.getElem?_eq_none (l := List.range N) (by rw [List.length_range]; omega)]; rfl
  simp only [c1, c2, if_true, e]
  exact h1
end
end Go.Proofs.YtjeamaahhpbbkaaDoor.PB
