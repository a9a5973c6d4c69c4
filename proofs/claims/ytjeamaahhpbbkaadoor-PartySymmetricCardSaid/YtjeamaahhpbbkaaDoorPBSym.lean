/- party.Connected at built parties. -/
import Derived.Test.YtjeamaahhpbbkaaDoorPBCon
import Derived.Test.YtjeamaahhpbbkaaDoorPAllx19
import Derived.Test.YtjeamaahhpbbkaaDoorPAllx18
namespace Go.Proofs.YtjeamaahhpbbkaaDoor.PB
open Go.RowKit Go.Proofs.YtjeamaahhpbbkaaDoorW.PrintWords Go.Proofs.YtjeamaahhpbbkaaDoor.PAll

/-- o controls c. -/
def Ctl (N : Nat) (L : List Sk) (o c : Nat) : Prop := ∃ t, Fin N o L t ∧ t c = true
theorem Ctl.of {N o c : Nat} {L : List Sk} {t : Nat → Bool} (h : Fin N o L t) (hc : c < N) : t c = true ↔ Ctl N L o c := by
  constructor
  · exact fun h1 => ⟨t, h, h1⟩
  · rintro ⟨u, h1, h2⟩
    rw [h.uniq h1 c hc]; exact h2
def TieOf (T : List S38) (a c : Nat) : Prop := ∃ x ∈ T, (x.f0 = (a : Int) ∧ x.f1 = (c : Int)) ∨ (x.f1 = (a : Int) ∧ x.f0 = (c : Int))
/-- a and c are connected. -/
def Cn (N : Nat) (L : List Sk) (T : List S38) (a c : Nat) : Prop := c = a ∨ Ctl N L a c ∨ TieOf T a c ∨ ∃ o, o < N ∧ Ctl N L o a ∧ (c = o ∨ Ctl N L o c)
theorem tie_symm {T : List S38} {a c : Nat} (h : TieOf T a c) : TieOf T c a := by
  obtain ⟨x, hx, h⟩ := h
  refine ⟨x, hx, ?_⟩
  rcases h with ⟨h1, h2⟩ | ⟨h1, h2⟩
  · exact .inr ⟨h2, h1⟩
  · exact .inl ⟨h2, h1⟩
theorem Cn.symm {N : Nat} {L : List Sk} {T : List S38} {a c : Nat} (ha : a < N) (h : Cn N L T a c) : Cn N L T c a := by
  rcases h with h | h | h | ⟨o, ho, h1, h2⟩
  · exact .inl h.symm
  · exact .inr (.inr (.inr ⟨a, ha, h, .inl rfl⟩))
  · exact .inr (.inr (.inl (tie_symm h)))
  · rcases h2 with h2 | h2
    · subst h2; exact .inr (.inl h1)
    · exact .inr (.inr (.inr ⟨o, ho, h2, .inr h1⟩))
theorem tb_put (N : Nat) (s : Nat → Bool) (c : Nat) (b : Bool) : (tb N s).set c b = tb N (fun j => if j = c then b else s j) := by
  refine List.ext_getElem? fun j => ?_
  by_cases hj : j < N
  · have e : (tb N (fun j => if j = c then b else s j))[j]? = some (if j = c then b else s j) := by unfold tb; rw [List.getElem?_map, List.getElem?_range hj]; rfl
    rw [e]
    by_cases h : c = j
    · subst h
      rw [List.getElem?_set_self (by rw [tb_len]; exact hj), if_pos rfl]
    · rw [List.getElem?_set_ne h, if_neg (fun h2 => h h2.symm)]
      unfold tb; rw [List.getElem?_map, List.getElem?_range hj]; rfl
  · rw [List.getElem?_eq_none (by rw [List.length_set, tb_len]; omega), List.getElem?_eq_none (by rw [tb_len]; omega)]
section
variable {N : Nat} {K : List Int} {L : List Sk} {T : List S38} (k : GoodK N K) (g : GoodS N K L) (ht : GoodT N T)
/-- One owner's companies are taken in. -/
theorem cn2 (a o : Nat) (t : Nat → Bool) (hN : N ≤ 7) (r : List Bool) (d : Nat) : ∀ (c : Nat) (s : Nat → Bool), N - c = d → c ≤ N →
    Ev (fun f => party_connected.l1 f ((a : Nat) : Int) (tb N (fun j => s j || (decide (c ≤ j) && t j))) ((N : Nat) : Int) (wrap64 (((o : Nat) : Int) + 1)) K (L.map mk) T) r →
    Ev (fun f => party_connected.l2 f ((a : Nat) : Int) (tb N s) ((N : Nat) : Int) ((o : Nat) : Int) (tb N t) (((tb N t).length : Nat) : Int) ((c : Nat) : Int) K (L.map mk) T) r := by
  induction d with
  | zero =>
    intro c s hd hc hend
    refine Ev.step (fun k => by simp only [party_connected.l2]; rfl) ?_
    have c1 : ¬ ((c : Nat) : Int) < (((tb N t).length : Nat) : Int) := by rw [tb_len]; omega
    simp only [c1, if_false]
    have e : tb N (fun j => s j || (decide (c ≤ j) && t j)) = tb N s := tb_congr _ _ _ fun j hj => by rw [decide_eq_false (by omega), Bool.false_and, Bool.or_false]
    rw [e] at hend
    exact hend
  | succ d ih =>
    intro c s hd hc hend
    have hlt : c < N := by omega
    have c1 : ((c : Nat) : Int) < (((tb N t).length : Nat) : Int) := by rw [tb_len]; omega
    have c2 : ((c : Nat) : Int) < (((tb N s).length : Nat) : Int) := by rw [tb_len]; omega
    have c0 : (0 : Int) ≤ ((c : Nat) : Int) := by omega
    have e := nxt hlt (by omega)
    have step : ∀ b : Bool, b = (s c || t c) → Ev (fun f => party_connected.l2 f ((a : Nat) : Int) ((tb N s).set c b) ((N : Nat) : Int) ((o : Nat) : Int) (tb N t) (((tb N t).length : Nat) : Int) ((c + 1 : Nat) : Int) K (L.map mk) T) r := by
      intro b hb
      rw [tb_put]
      refine ih (c + 1) _ (by omega) (by omega) ?_
      have e2 : tb N (fun j => (if j = c then b else s j) || (decide (c + 1 ≤ j) && t j)) = tb N (fun j => s j || (decide (c ≤ j) && t j)) := tb_congr _ _ _ fun j _ => by
        by_cases hj : j = c
        · subst hj
          rw [if_pos rfl, hb, decide_eq_false (by omega), decide_eq_true (Nat.le_refl _)]
          simp
        · rw [if_neg hj]
          by_cases hj2 : c ≤ j
          · rw [decide_eq_true hj2, decide_eq_true (show c + 1 ≤ j by omega)]
          · rw [decide_eq_false hj2, decide_eq_false (show ¬ c + 1 ≤ j by omega)]
      rw [e2]
      exact hend
    refine Ev.step (fun k => by simp only [party_connected.l2]; rfl) ?_
    simp only [c0, c1, c2, if_true, tb_rd N s c hlt, tb_rd N t c hlt, e, Int.toNat_natCast]
    cases hs : s c with
    | true =>
      simp only [if_true]
      exact step true (by rw [hs]; rfl)
    | false =>
      simp only [Bool.false_eq_true, if_false]
      exact step (t c) (by rw [hs, Bool.false_or])
include k g in
/-- The owners. -/
theorem cn1 (a : Nat) (ha : a < N) (d : Nat) : ∀ (o : Nat) (s : Nat → Bool), N - o = d → o ≤ N → (∀ c, c < N → (s c = true ↔ c = a ∨ Ctl N L a c ∨ TieOf T a c ∨ ∃ p, p < o ∧ Ctl N L p a ∧ (c = p ∨ Ctl N L p c))) →
    ∃ u, Ev (fun f => party_connected.l1 f ((a : Nat) : Int) (tb N s) ((N : Nat) : Int) ((o : Nat) : Int) K (L.map mk) T) (tb N u) ∧ ∀ c, c < N → (u c = true ↔ Cn N L T a c) := by
  have hN := k.seven
  have hk := k.len
  induction d with
  | zero =>
    intro o s hd ho hs
    obtain rfl : o = N := by omega
    refine ⟨s, Ev.step (fun k => by simp only [party_connected.l1]; rfl) ?_, hs⟩
    have c1 : ¬ ((o : Nat) : Int) < ((o : Nat) : Int) := Int.lt_irrefl _
    simp only [c1, if_false]
    exact Ev.now _
  | succ d ih =>
    intro o s hd ho hs
    have hlt : o < N := by omega
    have e := nxt hlt (by omega)
    obtain ⟨t, h1, hF⟩ := controlled_ev g hN hk o T
    have c1 : ((o : Nat) : Int) < ((N : Nat) : Int) := by clear e; omega
    have c2 : (0 : Int) ≤ ((a : Nat) : Int) := by clear e; omega
    have c3 : ((a : Nat) : Int) < (((tb N t).length : Nat) : Int) := by rw [tb_len]; clear e; omega
    have c4 : (0 : Int) ≤ ((o : Nat) : Int) := by clear e; omega
    have c5 : ((o : Nat) : Int) < (((tb N s).length : Nat) : Int) := by rw [tb_len]; clear e; omega
    have hta := Ctl.of hF ha
    by_cases hc : t a = true
    · obtain ⟨u, h2, h3⟩ := ih (o + 1) (fun j => (if j = o then true else s j) || (decide (0 ≤ j) && t j)) (by clear e; omega) (by clear e; omega) (fun c hcN => by
        have h5 := hs c hcN
        have h6 := Ctl.of hF hcN
        rw [decide_eq_true (Nat.zero_le _), Bool.true_and, Bool.or_eq_true]
        constructor
        · intro h
          rcases h with h | h
          · by_cases hco : c = o
            · exact .inr (.inr (.inr ⟨o, Nat.lt_succ_self _, hta.1 hc, .inl hco⟩))
            · rw [if_neg hco] at h
              rcases h5.1 h with h | h | h | ⟨p, q1, q2, q3⟩
              · exact .inl h
              · exact .inr (.inl h)
              · exact .inr (.inr (.inl h))
              · exact .inr (.inr (.inr ⟨p, by omega, q2, q3⟩))
          · exact .inr (.inr (.inr ⟨o, Nat.lt_succ_self _, hta.1 hc, .inr (h6.1 h)⟩))
        · intro h
          by_cases hco : c = o
          · left; rw [if_pos hco]
          · rw [if_neg hco]
            rcases h with h | h | h | ⟨p, q1, q2, q3⟩
            · exact .inl (h5.2 (.inl h))
            · exact .inl (h5.2 (.inr (.inl h)))
            · exact .inl (h5.2 (.inr (.inr (.inl h))))
            · by_cases hp : p = o
              · subst hp
                rcases q3 with q3 | q3
                · exact absurd q3 hco
                · exact .inr (h6.2 q3)
              · exact .inl (h5.2 (.inr (.inr (.inr ⟨p, by omega, q2, q3⟩)))))
      refine ⟨u, Ev.step (fun k => by simp only [party_connected.l1]; rfl) ?_, h3⟩
      simp only [c1, if_true]
      refine Ev.bind h1 ?_
      simp only [c2, c3, if_true, tb_rd N t a ha, hc, c4, c5, Int.toNat_natCast]
      rw [tb_put]
      refine cn2 a o t hN _ N 0 _ rfl (Nat.zero_le _) ?_
      rw [e]
      exact h2
    · obtain ⟨u, h2, h3⟩ := ih (o + 1) s (by clear e; omega) (by clear e; omega) (fun c hcN => by
        rw [hs c hcN]
        constructor
        · rintro (h | h | h | ⟨p, q1, q2, q3⟩)
          · exact .inl h
          · exact .inr (.inl h)
          · exact .inr (.inr (.inl h))
          · exact .inr (.inr (.inr ⟨p, by omega, q2, q3⟩))
        · rintro (h | h | h | ⟨p, q1, q2, q3⟩)
          · exact .inl h
          · exact .inr (.inl h)
          · exact .inr (.inr (.inl h))
          · by_cases hp : p = o
            · subst hp; exact absurd (hta.2 q2) hc
            · exact .inr (.inr (.inr ⟨p, by omega, q2, q3⟩)))
      refine ⟨u, Ev.step (fun k => by simp only [party_connected.l1]; rfl) ?_, h3⟩
      simp only [c1, if_true]
      refine Ev.bind h1 ?_
      simp only [c2, c3, if_true, tb_rd N t a ha, hc, e]
      exact h2
include k g ht in
/-- The ties. -/
theorem cn0 (a : Nat) (ha : a < N) (d : Nat) : ∀ (i : Nat) (s : Nat → Bool), T.length - i = d → i ≤ T.length → (∀ c, c < N → (s c = true ↔ c = a ∨ Ctl N L a c ∨ TieOf (T.take i) a c)) →
    ∃ u, Ev (fun f => party_connected.l0 f ((a : Nat) : Int) (tb N s) T ((T.length : Nat) : Int) ((i : Nat) : Int) K (L.map mk) T) (tb N u) ∧ ∀ c, c < N → (u c = true ↔ Cn N L T a c) := by
  have hN := k.seven
  have hk := k.len
  have h6 := ht.1
  induction d with
  | zero =>
    intro i s hd hi hs
    obtain rfl : i = T.length := by omega
    obtain ⟨u, h1, h2⟩ := cn1 k g a ha N 0 s rfl (Nat.zero_le _) (fun c hc => by
      rw [hs c hc, List.take_length]
      constructor
      · rintro (h | h | h)
        · exact .inl h
        · exact .inr (.inl h)
        · exact .inr (.inr (.inl h))
      · rintro (h | h | h | ⟨p, q1, _⟩)
        · exact .inl h
        · exact .inr (.inl h)
        · exact .inr (.inr h)
        · exact absurd q1 (Nat.not_lt_zero _))
    refine ⟨u, Ev.step (fun k => by simp only [party_connected.l0]; rfl) ?_, h2⟩
    have c1 : ¬ ((T.length : Nat) : Int) < ((T.length : Nat) : Int) := Int.lt_irrefl _
    simp only [c1, if_false, hk]
    exact h1
  | succ d ih =>
    intro i s hd hi hs
    have hlt : i < T.length := by omega
    have e := nxt hlt (by omega)
    have hx := ht.2 _ (rdT_mem T i hlt)
    have htk : T.take (i + 1) = T.take i ++ [rd_T38 T (i : Int)] := by
      rw [List.take_succ_eq_append_getElem hlt]
      congr 2
      show _ = T.getD (Int.toNat (i : Int)) z38
      rw [Int.toNat_natCast, List.getD_eq_getElem?_getD, List.getElem?_eq_getElem hlt]; rfl
    obtain ⟨x0, x1, y0, y1, ne⟩ := hx
    obtain ⟨A, hA⟩ := Int.eq_ofNat_of_zero_le x0
    obtain ⟨B, hB⟩ := Int.eq_ofNat_of_zero_le y0
    have hAN : A < N := by clear e; omega
    have hBN : B < N := by clear e; omega
    have hAB : A ≠ B := by intro h; apply ne; rw [hA, hB, h]
    have tie : ∀ c : Nat, TieOf (T.take (i + 1)) a c ↔ TieOf (T.take i) a c ∨ (A = a ∧ B = c) ∨ (B = a ∧ A = c) := by
      intro c
      rw [htk]
      unfold TieOf
      constructor
      · rintro ⟨x, hx, h⟩
        rcases List.mem_append.1 hx with hx | hx
        · exact .inl ⟨x, hx, h⟩
        · rw [List.mem_singleton.1 hx, hA, hB] at h
          rcases h with ⟨h1, h2⟩ | ⟨h1, h2⟩
          · exact .inr (.inl ⟨by omega, by omega⟩)
          · exact .inr (.inr ⟨by omega, by omega⟩)
      · rintro (⟨x, hx, h⟩ | ⟨h1, h2⟩ | ⟨h1, h2⟩)
        · exact ⟨x, List.mem_append.2 (.inl hx), h⟩
        · exact ⟨_, List.mem_append.2 (.inr (List.mem_singleton.2 rfl)), .inl ⟨by rw [hA, h1], by rw [hB, h2]⟩⟩
        · exact ⟨_, List.mem_append.2 (.inr (List.mem_singleton.2 rfl)), .inr ⟨by rw [hB, h1], by rw [hA, h2]⟩⟩
    -- a further party, or none
    have one : ∀ D : Nat, D < N → (∀ c : Nat, ((A = a ∧ B = c) ∨ (B = a ∧ A = c)) ↔ c = D) → ∃ u, Ev (fun f => party_connected.l0 f ((a : Nat) : Int) ((tb N s).set D true) T ((T.length : Nat) : Int) ((i + 1 : Nat) : Int) K (L.map mk) T) (tb N u) ∧ ∀ c, c < N → (u c = true ↔ Cn N L T a c) := by
      intro D hD hc
      rw [tb_put]
      refine ih (i + 1) _ (by clear e; omega) (by clear e; omega) (fun c hcN => ?_)
      rw [tie c, hc c]
      by_cases hcD : c = D
      · rw [if_pos hcD]
        exact ⟨fun _ => .inr (.inr (.inr hcD)), fun _ => rfl⟩
      · rw [if_neg hcD, hs c hcN]
        constructor
        · rintro (h | h | h)
          · exact .inl h
          · exact .inr (.inl h)
          · exact .inr (.inr (.inl h))
        · rintro (h | h | h | h)
          · exact .inl h
          · exact .inr (.inl h)
          · exact .inr (.inr h)
          · exact absurd h hcD
    have none_ : (∀ c : Nat, ¬ ((A = a ∧ B = c) ∨ (B = a ∧ A = c))) → ∃ u, Ev (fun f => party_connected.l0 f ((a : Nat) : Int) (tb N s) T ((T.length : Nat) : Int) ((i + 1 : Nat) : Int) K (L.map mk) T) (tb N u) ∧ ∀ c, c < N → (u c = true ↔ Cn N L T a c) := by
      intro hc
      refine ih (i + 1) _ (by clear e; omega) (by clear e; omega) (fun c hcN => ?_)
      rw [tie c, hs c hcN]
      constructor
      · rintro (h | h | h)
        · exact .inl h
        · exact .inr (.inl h)
        · exact .inr (.inr (.inl h))
      · rintro (h | h | h | h)
        · exact .inl h
        · exact .inr (.inl h)
        · exact .inr (.inr h)
        · exact absurd h (hc c)
    have c1 : ((i : Nat) : Int) < ((T.length : Nat) : Int) := by clear e; omega
    have c0 : (0 : Int) ≤ ((i : Nat) : Int) := by clear e; omega
    have cA : (0 : Int) ≤ ((A : Nat) : Int) := by clear e; omega
    have cB : (0 : Int) ≤ ((B : Nat) : Int) := by clear e; omega
    have dA : ((A : Nat) : Int) < (((tb N s).length : Nat) : Int) := by rw [tb_len]; clear e; omega
    have dB : ((B : Nat) : Int) < (((tb N s).length : Nat) : Int) := by rw [tb_len]; clear e; omega
    by_cases hAa : ((A : Nat) : Int) = ((a : Nat) : Int)
    · have hAa' : A = a := by clear e; omega
      have hBa : ¬ ((B : Nat) : Int) = ((a : Nat) : Int) := by clear e; omega
      obtain ⟨u, h1, h2⟩ := one B hBN (fun c => ⟨fun h => h.elim (fun h => h.2.symm) (fun h => absurd (hAa'.trans h.1.symm) hAB), fun h => .inl ⟨hAa', h.symm⟩⟩)
      refine ⟨u, Ev.step (fun k => by simp only [party_connected.l0]; rfl) ?_, h2⟩
      simp only [c1, c0, if_true, show (rd_T38 T (i : Int)).f0 = ((A : Nat) : Int) from hA, show (rd_T38 T (i : Int)).f1 = ((B : Nat) : Int) from hB, hAa, cB, dB, Option.bind_some, hBa, if_false, e, Int.toNat_natCast]
      exact h1
    · have hAa' : ¬ A = a := fun h => hAa (by rw [h])
      by_cases hBa : ((B : Nat) : Int) = ((a : Nat) : Int)
      · have hBa' : B = a := by clear e; omega
        obtain ⟨u, h1, h2⟩ := one A hAN (fun c => ⟨fun h => h.elim (fun h => absurd h.1 hAa') (fun h => h.2.symm), fun h => .inr ⟨hBa', h.symm⟩⟩)
        refine ⟨u, Ev.step (fun k => by simp only [party_connected.l0]; rfl) ?_, h2⟩
        simp only [c1, c0, if_true, show (rd_T38 T (i : Int)).f0 = ((A : Nat) : Int) from hA, show (rd_T38 T (i : Int)).f1 = ((B : Nat) : Int) from hB, hAa, if_false, hBa, cA, dA, e, Int.toNat_natCast]
        exact h1
      · have hBa' : ¬ B = a := fun h => hBa (by rw [h])
        obtain ⟨u, h1, h2⟩ := none_ (fun c h => h.elim (fun h => hAa' h.1) (fun h => hBa' h.1))
        refine ⟨u, Ev.step (fun k => by simp only [party_connected.l0]; rfl) ?_, h2⟩
        simp only [c1, c0, if_true, show (rd_T38 T (i : Int)).f0 = ((A : Nat) : Int) from hA, show (rd_T38 T (i : Int)).f1 = ((B : Nat) : Int) from hB, hAa, if_false, hBa, e]
        exact h1
include k g ht in
theorem connected_ev (a : Nat) (ha : a < N) : ∃ u, Ev (fun f => party_connected.f f K (L.map mk) T ((a : Nat) : Int)) (tb N u) ∧ ∀ c, c < N → (u c = true ↔ Cn N L T a c) := by
  have hN := k.seven
  have hk := k.len
  obtain ⟨t, h1, hF⟩ := controlled_ev g hN hk a T
  have c2 : (0 : Int) ≤ ((a : Nat) : Int) := by omega
  have c3 : ((a : Nat) : Int) < (((tb N t).length : Nat) : Int) := by rw [tb_len]; omega
  obtain ⟨u, h2, h3⟩ := cn0 k g ht a ha T.length 0 (fun j => if j = a then true else t j) rfl (Nat.zero_le _) (fun c hc => by
    have h6 := Ctl.of hF hc
    have hno : ¬ TieOf (T.take 0) a c := by rintro ⟨x, hx, _⟩; rw [List.take_zero] at hx; cases hx
    by_cases h : c = a
    · rw [if_pos h]; exact ⟨fun _ => .inl h, fun _ => rfl⟩
    · rw [if_neg h, h6]
      exact ⟨fun h => .inr (.inl h), fun h2 => h2.elim (fun h3 => absurd h3 h) (fun h3 => h3.elim id (fun h4 => absurd h4 hno))⟩)
  refine ⟨u, ?_, h3⟩
  unfold party_connected.f
  refine Ev.bind h1 ?_
  simp only [c2, c3, if_true, Int.toNat_natCast]
  rw [tb_put]
  exact h2
include k g ht in
/-- Connected answers whether two parties are connected. -/
theorem Connected_ev (a c : Nat) (ha : a < N) (hc : c < N) : ∃ b : Bool, Ev (fun f => party_Connected.f f K (L.map mk) T ((a : Nat) : Int) ((c : Nat) : Int)) (b, 0) ∧ (b = true ↔ Cn N L T a c) := by
  have hN := k.seven
  have hk := k.len
  obtain ⟨t, _, hF⟩ := controlled_ev g hN hk a T
  obtain ⟨u, h1, h2⟩ := connected_ev k g ht a ha
  have c0 : (0 : Int) ≤ ((c : Nat) : Int) := by omega
  have c1 : ((c : Nat) : Int) < (((tb N u).length : Nat) : Int) := by rw [tb_len]; omega
  refine ⟨u c, ?_, h2 c hc⟩
  unfold party_Connected.f
  refine Ev.bind (Controls_ev k g ht a c ha hc t hF) ?_
  simp only [if_true]
  refine Ev.bind h1 ?_
  simp only [c0, c1, if_true, tb_rd N u c hc]
  exact Ev.now _
include k g ht in
theorem Connected_true (a c : Nat) (ha : a < N) (hc : c < N) (h : Cn N L T a c) : Ev (fun f => party_Connected.f f K (L.map mk) T ((a : Nat) : Int) ((c : Nat) : Int)) (true, 0) := by
  obtain ⟨b, h1, h2⟩ := Connected_ev k g ht a c ha hc
  rw [h2.2 h] at h1
  exact h1
end
end Go.Proofs.YtjeamaahhpbbkaaDoor.PB
