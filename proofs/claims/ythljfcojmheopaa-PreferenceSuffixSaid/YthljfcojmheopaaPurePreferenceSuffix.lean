/- The law PreferenceSuffix, over numbers and lists alone: the exposure over a built history is the greatest sum over its suffixes. -/
import Derived.Test.YthljfcojmheopaaAwake26
import Derived.Test.YthljfcojmheopaaTypesPreferenceSuffix
namespace Go.Proofs.Ythljfcojmheopaa.Pure
open Go.RowKit Go.Proofs.YthljfcojmheopaaW.PrintWords Go.Proofs.YthljfcojmheopaaW.PrintMore Go.Proofs.Ythljfcojmheopaa.PAll Go.Proofs.Ythljfcojmheopaa.Types Go.Proofs.Ythljfcojmheopaa.LRows Go.Proofs.Ythljfcojmheopaa.Expo

/-- What a row adds to a suffix's sum. -/
def part (x8 x9 : Int) (r : S30) : Int :=
  if r.f0 < x8 ∨ r.f0 > x9 ∨ r.f1 = 3 then 0
  else (if r.f1 = 1 ∧ r.f2 = 0 ∧ r.f3 = 1 then r.f4 else 0) - (if r.f2 = 1 ∧ r.f3 = 0 then r.f4 else 0)
def total (x8 x9 : Int) : List S30 → Int
  | [] => 0
  | r :: l => part x8 x9 r + total x8 x9 l
def best (x8 x9 : Int) : List S30 → Int
  | [] => 0
  | r :: l => max (best x8 x9 l) (part x8 x9 r + total x8 x9 l)

theorem mx_max (a b : Int) : mx a b = max a b := by unfold mx; split <;> omega
theorem total_le_best (x8 x9 : Int) (l : List S30) : total x8 x9 l ≤ best x8 x9 l ∧ 0 ≤ best x8 x9 l := by
  induction l with
  | nil => exact ⟨Int.le_refl _, Int.le_refl _⟩
  | cons r l ih => simp only [total, best]; omega
theorem part_bounds (x8 x9 : Int) (r : S30) (h : GoodRow 3 r) : -40 ≤ part x8 x9 r ∧ part x8 x9 r ≤ 40 := by
  obtain ⟨_, _, _, _, _, _, _, _, h4, h4', _⟩ := h
  unfold part
  split
  · omega
  · split <;> split <;> omega
theorem total_bounds (x8 x9 : Int) (l : List S30) (h : ∀ r ∈ l, GoodRow 3 r) : -40 * (l.length : Int) ≤ total x8 x9 l ∧ total x8 x9 l ≤ 40 * (l.length : Int) := by
  induction l with
  | nil => simp [total]
  | cons r l ih =>
    have h1 := part_bounds x8 x9 r (h r (List.mem_cons_self ..))
    have h2 := ih (fun y hy => h y (List.mem_cons_of_mem _ hy))
    simp only [total, List.length_cons]
    omega
/-- One row, forward: what is gained is added, what is given back is subtracted, not below 0. -/
theorem step_part (x8 x9 e : Int) (r : S30) (h : GoodRow 3 r) (h0 : 0 ≤ e) (h1 : e ≤ 1000000) : expStep 0 1 x8 x9 e r = max (e + part x8 x9 r) 0 := by
  obtain ⟨_, k1, k3, _, _, _, _, hne, h4, h4', _⟩ := h
  have w1 : Aside0 (wrap64 (e + r.f4) = e + r.f4) := Aside0.mk (w64 (by omega) (by omega))
  have w2 : Aside0 (wrap64 (e - r.f4) = e - r.f4) := Aside0.mk (w64 (by omega) (by omega))
  unfold expStep part
  rw [w1.out, w2.out, mx_max]
  clear w1 w2
  grind
theorem fold_best (x8 x9 : Int) (l : List S30) (h : ∀ r ∈ l, GoodRow 3 r) (hl : (l.length : Int) ≤ 1000) : ∀ e : Int, 0 ≤ e → e + 40 * (l.length : Int) ≤ 1000000 →
    l.foldl (expStep 0 1 x8 x9) e = max (e + total x8 x9 l) (best x8 x9 l) := by
  induction l with
  | nil => intro e h0 _; simp [total, best]; omega
  | cons r l ih =>
    intro e h0 h1
    have hr := h r (List.mem_cons_self ..)
    have hb := part_bounds x8 x9 r hr
    have h2 := total_le_best x8 x9 l
    simp only [List.length_cons] at h1 hl
    rw [List.foldl_cons, step_part x8 x9 e r hr h0 (by omega), ih (fun y hy => h y (List.mem_cons_of_mem _ hy)) (by omega) _ (by omega) (by omega)]
    simp only [total, best]
    omega

theorem suffix_loop (x8 x9 : Int) (l : List S30) (hg : ∀ r ∈ l, GoodRow 3 r) (hl : (l.length : Int) ≤ 1000) (K : Nat)
    (hK : ∀ k, K ≤ k → ((insolvencylaw26_awake.f k).bind fun t127 => (if t127 = true then ((preference_Exposure.f k l 0 1 x8 x9).bind fun t128 => (some (t128 == best x8 x9 l))) else (some false))) = some true) :
    ∀ (j k : Nat), j ≤ l.length → 3 * j + K < k → insolvencylaw26_PreferenceSuffix.l0 k l x8 x9 (best x8 x9 (l.drop j)) (total x8 x9 (l.drop j)) ((j : Int) - 1) = some true := by
  intro j
  induction j with
  | zero =>
    intro k _ hk
    obtain ⟨k, rfl⟩ : ∃ m, k = m + 1 := ⟨k - 1, by omega⟩
    have hneg : ¬ (((0 : Nat) : Int) - 1 ≥ 0) := by omega
    simp only [insolvencylaw26_PreferenceSuffix.l0]
    rw [if_neg hneg, List.drop_zero]
    exact hK k (by omega)
  | succ j ih =>
    intro k hj hk
    obtain ⟨k, rfl⟩ : ∃ m, k = m + 3 := ⟨k - 3, by omega⟩
    have hlt : j < l.length := by omega
    have e : (((j + 1 : Nat) : Int) - 1) = (j : Int) := by omega
    have c0 : (j : Int) ≥ 0 := by omega
    have c0' : (0 : Int) ≤ (j : Int) := by omega
    have c1 : (j : Int) < (l.length : Int) := by omega
    have hd := drop_at l j hlt
    have hr : GoodRow 3 (rd_T30 l (j : Int)) := by
      refine hg _ ?_
      have : rd_T30 l (j : Int) ∈ l.drop j := by rw [hd]; exact List.mem_cons_self ..
      exact List.mem_of_mem_drop this
    have hb : -40000 ≤ total x8 x9 (l.drop (j + 1)) ∧ total x8 x9 (l.drop (j + 1)) ≤ 40000 := by
      have := total_bounds x8 x9 (l.drop (j + 1)) (fun y hy => hg y (List.mem_of_mem_drop hy))
      have h2 : (l.drop (j + 1)).length ≤ l.length := by rw [List.length_drop]; omega
      omega
    have i1 := ih k (by omega) (by omega)
    have i2 := ih (k + 1) (by omega) (by omega)
    have hn : Aside0 (wrap64 ((j : Int) - 1) = (j : Int) - 1) := Aside0.mk (w64 (by omega) (by omega))
    have htb := total_le_best x8 x9 (l.drop (j + 1))
    rw [hd] at i1 i2
    simp only [total, best] at i1 i2
    simp only [insolvencylaw26_PreferenceSuffix.l0]
    rw [e, if_pos c0, if_pos c0', if_pos c1]
    simp only [insolvencylaw26_PreferenceSuffix.j1, insolvencylaw26_PreferenceSuffix.j2, hn.out]
    generalize hx : rd_T30 l (j : Int) = r at *
    generalize total x8 x9 (l.drop (j + 1)) = T at *
    generalize best x8 x9 (l.drop (j + 1)) = Bs at *
    obtain ⟨_, k1, k3, _, _, _, _, hne, h4, h4', _⟩ := hr
    have w1 : Aside0 (wrap64 (T + r.f4) = T + r.f4) := Aside0.mk (w64 (by omega) (by omega))
    have w2 : Aside0 (wrap64 (T - r.f4) = T - r.f4) := Aside0.mk (w64 (by omega) (by omega))
    rw [w1.out, w2.out]
    simp only [mx_max]
    clear hn w1 w2 ih hd hK e c0 c0' c1 hx hlt hj hk hg
    by_cases s : r.f0 < x8 ∨ r.f0 > x9 ∨ r.f1 = 3
    · have hp : part x8 x9 r = 0 := by unfold part; rw [if_pos s]
      rw [hp] at i1 i2
      have e1 : max Bs (0 + T) = Bs := by omega
      have e2 : (0 : Int) + T = T := by omega
      rw [e1, e2] at i1 i2
      by_cases s1 : r.f0 < x8
      · rw [if_pos s1]; simpa using i2
      · rw [if_neg s1]
        by_cases s2 : r.f0 > x9
        · rw [if_pos s2]; simpa using i2
        · rw [if_neg s2]
          have s3 : r.f1 = 3 := by omega
          simp only [s3]; simpa using i2
    · have s1 : ¬ r.f0 < x8 := by omega
      have s2 : ¬ r.f0 > x9 := by omega
      have s3 : (r.f1 == 3) = false := by have : r.f1 ≠ 3 := by omega
                                          simpa using this
      rw [if_neg s1, if_neg s2, s3]
      simp only [Bool.false_eq_true, if_false]
      by_cases p : r.f1 = 1 ∧ r.f2 = 0 ∧ r.f3 = 1
      · obtain ⟨p1, p2, p3⟩ := p
        have hp : part x8 x9 r = r.f4 := by unfold part; rw [if_neg s, if_pos ⟨p1, p2, p3⟩, if_neg (by omega)]; omega
        rw [hp, Int.add_comm r.f4 T] at i1
        have n2 : ¬ r.f2 = 1 := by omega
        simp only [p1, p2, p3, if_true, beq_self_eq_true, if_false, show ¬ ((0 : Int) = 1) by decide]
        exact i1
      · by_cases q : r.f2 = 1 ∧ r.f3 = 0
        · obtain ⟨q1, q2⟩ := q
          have hp : part x8 x9 r = -r.f4 := by unfold part; rw [if_neg s, if_neg p, if_pos ⟨q1, q2⟩]; omega
          have e3 : -r.f4 + T = T - r.f4 := by omega
          rw [hp, e3] at i1
          simp only [q1, q2, if_true, show ¬ ((1 : Int) = 0) by decide, if_false, ite_self]
          exact i1
        · have hp : part x8 x9 r = 0 := by unfold part; rw [if_neg s, if_neg p, if_neg q]; rfl
          have e2 : (0 : Int) + T = T := by omega
          rw [hp, e2] at i1
          by_cases g1 : r.f1 = 1 <;> by_cases g2 : r.f2 = 0 <;> by_cases g3 : r.f3 = 1 <;> by_cases g4 : r.f2 = 1 <;> by_cases g5 : r.f3 = 0 <;> simp_all

theorem PreferenceSuffix : TPreferenceSuffix.Pure := by
  intro l a1 a2 hl _ _
  refine Ev.rounds ?_
  unfold insolvencylaw26_PreferenceSuffix.f
  obtain ⟨r, day, hr, hb⟩ := rows_built 3 20 (by decide) (by decide) (by decide) l hl
  have hlen := hb.len
  have hg : ∀ x ∈ r, GoodRow 3 x := fun x hx => (hb.good x hx).1
  refine Ev.bind hr ?_
  have he : Ev (fun k => (insolvencylaw26_awake.f k).bind fun t127 => (if t127 = true then ((preference_Exposure.f k r 0 1 (wrap64 (Int.tmod a1 30)) (wrap64 (Int.tmod a2 60))).bind fun t128 => (some (t128 == best (wrap64 (Int.tmod a1 30)) (wrap64 (Int.tmod a2 60)) r))) else (some false))) true := by
    refine Ev.bind awake_true ?_
    simp only [if_true]
    refine Ev.bind (expo 0 1 _ _ r (by unfold maxLen; omega)) ?_
    rw [if_neg (by decide), fold_best _ _ r hg (by omega) 0 (by decide) (by omega)]
    have := total_le_best (wrap64 (Int.tmod a1 30)) (wrap64 (Int.tmod a2 60)) r
    rw [Int.zero_add, Int.max_eq_right this.1]
    simp only [beq_self_eq_true]
    exact Ev.now _
  obtain ⟨K, hK⟩ := he
  have h := fun k (hk : 3 * r.length + K < k) => suffix_loop (wrap64 (Int.tmod a1 30)) (wrap64 (Int.tmod a2 60)) r hg (by omega) K hK r.length k (Nat.le_refl _) hk
  rw [List.drop_length] at h
  have hw : wrap64 ((r.length : Int) - 1) = (r.length : Int) - 1 := w64 (by omega) (by omega)
  rw [hw]
  exact ⟨3 * r.length + K + 1, fun k hk => h k hk⟩
end Go.Proofs.Ythljfcojmheopaa.Pure
