/- The reference's natural numbers: times, plus, minus, short. -/
import Derived.Test.YtljenpakncmlkaaRNb
import Derived.Test.YtljenpakncmlkaaPAllx5
import Derived.Test.YtljenpakncmlkaaPAllx7
import Derived.Test.YtljenpakncmlkaaPAllx3
namespace Go.Proofs.Ytljenpakncmlkaa.RN
open Go.RowKit Go.Proofs.YtljenpakncmlkaaW.PrintWords Go.Proofs.YtljenpakncmlkaaW.PrintMore Go.Proofs.Ytljenpakncmlkaa.PAll Go.Proofs.Ytljenpakncmlkaa.Mth

/-- One place of a product. -/
theorem mul_place (x y c o : Int) (hx : 0 ≤ x ∧ x < 4294967296) (hy : 0 ≤ y ∧ y < 4294967296) (hc : 0 ≤ c ∧ c < 4294967296) (ho : 0 ≤ o ∧ o < 4294967296) :
    IntKind.u64.wrap (IntKind.u64.wrap (c + IntKind.u64.wrap (IntKind.u64.wrap x * IntKind.u64.wrap y)) + IntKind.u64.wrap o) = c + x * y + o ∧ 0 ≤ c + x * y + o ∧ c + x * y + o < 18446744073709551616 := by
  have h0 : 0 ≤ x * y := Int.mul_nonneg hx.1 hy.1
  have h1 : x * y ≤ 4294967295 * 4294967295 := Int.mul_le_mul (by omega) (by omega) hy.1 (by omega)
  rw [u64 x hx.1 (by omega), u64 y hy.1 (by omega), u64 o ho.1 (by omega), u64 (x * y) h0 (by omega), u64 (c + x * y) (by omega) (by omega), u64 _ (by omega) (by omega)]
  omega
structure Row (a b : List Int) (i : Nat) (o : List Int) : Prop where
  u : U32 o
  len : o.length = a.length + b.length
  v : lv o = lv (a.take i) * lv b
  z : ∀ m, i + b.length ≤ m → m < o.length → o.getD m 0 = 0
theorem getD_set_ne (l : List Int) (i m : Nat) (x : Int) (h : i ≠ m) : (l.set i x).getD m 0 = l.getD m 0 := by
  rw [List.getD_eq_getElem?_getD, List.getD_eq_getElem?_getD, List.getElem?_set_ne h]
theorem times_row (a b : List Int) (ha : U32 a) (hb : U32 b) (hn : a.length + b.length ≤ big) (i : Nat) (hi : i < a.length) (d : Nat) : ∀ (k j : Nat) (c : Int) (o : List Int), b.length - j = d → j ≤ b.length →
    U32 o → o.length = a.length + b.length → 0 ≤ c → c < 4294967296 → lv o + c * P (i + j) = lv (a.take i) * lv b + a.getD i 0 * lv (b.take j) * P i → (∀ m, i + b.length ≤ m → m < o.length → o.getD m 0 = 0) →
    ∃ o', Row a b (i + 1) o' ∧ insolvencyref1_times.l1 (k + d + 1) a b o (i : Int) c (j : Int) = insolvencyref1_times.l0 k a b o' ((i + 1 : Nat) : Int) := by
  induction d with
  | zero =>
    intro k j c o hd hj hu hl c0 c1 hv hz
    obtain rfl : j = b.length := by omega
    have e1 : Aside0 (wrap64 ((i : Int) + ((b.length : Nat) : Int)) = ((i + b.length : Nat) : Int)) := Aside0.mk <| by rw [wI _ ⟨by omega, by unfold big at hn; omega⟩]; omega
    have e2 : Aside0 (wrap64 ((i : Int) + 1) = ((i + 1 : Nat) : Int)) := Aside0.mk <| by rw [wI _ ⟨by omega, by unfold big at hn; omega⟩]; omega
    have hlt : i + b.length < o.length := by omega
    have ec : c % 4294967296 = c := by omega
    refine ⟨o.set (i + b.length) c, ⟨U32_set hu _ c0 c1, by rw [List.length_set]; exact hl, ?_, fun m hm hm2 => ?_⟩, ?_⟩
    · rw [lv_set hlt, hz _ (Nat.le_refl _) hlt, lv_take_succ hi]
      rw [List.take_length] at hv
      have : (c - 0) * P (i + b.length) = c * P (i + b.length) := by rw [Int.sub_zero]
      rw [this, hv]
      grind
    · rw [getD_set_ne _ _ _ _ (by omega)]
      rw [List.length_set] at hm2
      exact hz m (by omega) hm2
    · rw [insolvencyref1_times.l1, if_neg (by omega), e1.out, e2.out, if_pos (by omega), if_pos (by omega), Int.toNat_natCast, ec]
  | succ d ih =>
    intro k j c o hd hj hu hl c0 c1 hv hz
    have hjl : j < b.length := by omega
    have e1 : Aside0 (wrap64 ((i : Int) + (j : Int)) = ((i + j : Nat) : Int)) := Aside0.mk <| by rw [wI _ ⟨by omega, by unfold big at hn; omega⟩]; omega
    have e2 : Aside0 (wrap64 ((j : Int) + 1) = ((j + 1 : Nat) : Int)) := Aside0.mk <| by rw [wI _ ⟨by omega, by unfold big at hn; omega⟩]; omega
    have hlt : i + j < o.length := by omega
    obtain ⟨w1, w2, w3⟩ := mul_place (a.getD i 0) (b.getD j 0) c (o.getD (i + j) 0) (U32_getD ha i) (U32_getD hb j) ⟨c0, c1⟩ (U32_getD hu (i + j))
    have hstep : lv (o.set (i + j) ((c + a.getD i 0 * b.getD j 0 + o.getD (i + j) 0) % 4294967296)) + (c + a.getD i 0 * b.getD j 0 + o.getD (i + j) 0) / 4294967296 * P (i + (j + 1)) = lv (a.take i) * lv b + a.getD i 0 * lv (b.take (j + 1)) * P i := by
      rw [lv_set hlt, lv_take_succ hjl]
      have hw := Int.emod_add_mul_ediv (c + a.getD i 0 * b.getD j 0 + o.getD (i + j) 0) 4294967296
      have hp : P (i + (j + 1)) = P (i + j) * 4294967296 := by rw [← Nat.add_assoc]; exact P_succ _
      have hp2 : P (i + j) = P i * P j := P_add _ _
      generalize (c + a.getD i 0 * b.getD j 0 + o.getD (i + j) 0) % 4294967296 = r at *
      generalize (c + a.getD i 0 * b.getD j 0 + o.getD (i + j) 0) / 4294967296 = q at *
      rw [hp]
      rw [hp2] at hv ⊢
      clear ih hz w1 e1 e2
      grind
    rw [show k + (d + 1) + 1 = (k + d + 1) + 1 by omega, insolvencyref1_times.l1, if_pos (by omega), if_pos (by omega), if_pos (by omega), if_pos (by omega), e1.out, e2.out, if_pos (by omega), if_pos (by omega), Int.toNat_natCast, rdn, rdn, rdn, w1]
    clear w1 hv
    exact ih k (j + 1) _ _ (by omega) (by omega) (U32_set hu _ (by omega) (by omega)) (by rw [List.length_set]; exact hl) (by omega) (by omega) hstep (fun m hm hm2 => by
      rw [getD_set_ne _ _ _ _ (by omega)]
      rw [List.length_set] at hm2
      exact hz m hm hm2)
theorem times_loop (a b : List Int) (ha : U32 a) (hb : U32 b) (hn : a.length + b.length ≤ big) (d : Nat) : ∀ (i : Nat) (o : List Int), a.length - i = d → i ≤ a.length → Row a b i o →
    ∃ r, Ev (fun k => insolvencyref1_times.l0 k a b o (i : Int)) r ∧ U32 r ∧ Tr r ∧ lv r = lv a * lv b ∧ r.length ≤ a.length + b.length := by
  induction d with
  | zero =>
    intro i o hd hi h
    obtain rfl : i = a.length := by omega
    have hs := stripL_is o h.u
    refine ⟨stripL o, ?_, hs.u, hs.tr, ?_, by have := hs.len; have := h.len; omega⟩
    · refine Ev.step (fun k => by simp only [insolvencyref1_times.l0]; rfl) ?_
      simp only [Int.lt_irrefl, if_false]
      exact Ev.bind (strip_ev o (by rw [h.len]; exact hn)) (Ev.now _)
    · rw [hs.v, h.v, List.take_length]
  | succ d ih =>
    intro i o hd hi h
    have hil : i < a.length := by omega
    obtain ⟨o', ho, he⟩ := times_row a b ha hb hn i hil b.length 0 0 0 o rfl (Nat.zero_le _) h.u h.len (Int.le_refl _) (by decide) (by rw [h.v]; simp [lv]) h.z
    obtain ⟨r, hr, hr2⟩ := ih (i + 1) o' (by omega) (by omega) ho
    refine ⟨r, ?_, hr2⟩
    obtain ⟨K, hK⟩ := hr
    refine ⟨K + b.length + 2, fun k hk => ?_⟩
    obtain ⟨m, rfl⟩ : ∃ m, k = (m + b.length + 1) + 1 := ⟨k - b.length - 2, by omega⟩
    have he' := (times_row a b ha hb hn i hil b.length m 0 0 o rfl (Nat.zero_le _) h.u h.len (Int.le_refl _) (by decide) (by rw [h.v]; simp [lv]) h.z)
    obtain ⟨o2, ho2, he2⟩ := he'
    have e : o2 = o' := lv_inj ho2.u ho.u (by rw [ho2.len, ho.len]) (by rw [ho2.v, ho.v])
    subst e
    show insolvencyref1_times.l0 (m + b.length + 1 + 1) a b o (i : Int) = some r
    rw [insolvencyref1_times.l0, if_pos (by omega)]
    exact he2.trans (hK m (by omega))
structure TimesIs (v : Int) (n : Nat) (r : List Int) : Prop where
  u : U32 r
  tr : Tr r
  v : lv r = v
  len : r.length ≤ n
theorem times_ev (a b : List Int) (ha : U32 a) (hb : U32 b) (hn : a.length + b.length ≤ big) : ∃ r, Ev (fun k => insolvencyref1_times.f k a b) r ∧ TimesIs (lv a * lv b) (a.length + b.length) r := by
  obtain ⟨r, h1, h2, h3, h4, h5⟩ := times_loop a b ha hb hn a.length 0 (List.replicate (a.length + b.length) 0) rfl (Nat.zero_le _)
    ⟨U32_replicate _, List.length_replicate, by rw [lv_replicate, List.take_zero, lv_nil, Int.zero_mul], fun m _ hm => by
      rw [List.length_replicate] at hm
      rw [List.getD_eq_getElem?_getD, List.getElem?_replicate_of_lt hm]; rfl⟩
  refine ⟨r, ?_, h2, h3, h4, h5⟩
  have e1 : wrap64 (((a.length : Nat) : Int) + ((b.length : Nat) : Int)) = ((a.length + b.length : Nat) : Int) := by rw [wI _ ⟨by omega, by unfold big at hn; omega⟩]; omega
  have d1 : (0 : Int) ≤ ((a.length + b.length : Nat) : Int) := by clear e1; omega
  have d2 : a.length + b.length ≤ 70368744177664 := by clear e1; unfold big at hn; omega
  unfold insolvencyref1_times.f
  rw [e1]
  simp only [d1, if_true, Int.toNat_natCast, d2]
  exact h1
/-! ### plus -/
theorem rd_none (l : List Int) (i : Nat) (h : l.length ≤ i) : l.getD i 0 = 0 := by
  rw [List.getD_eq_getElem?_getD, List.getElem?_eq_none h]; rfl
theorem lv_take_any (l : List Int) (i : Nat) : lv (l.take (i + 1)) = lv (l.take i) + l.getD i 0 * P i := by
  by_cases h : i < l.length
  · exact lv_take_succ h
  · rw [rd_none l i (by omega), List.take_of_length_le (by omega), List.take_of_length_le (by omega)]; omega
theorem plus_loop (a b : List Int) (ha : U32 a) (hb : U32 b) (hn : a.length ≤ big ∧ b.length ≤ big) (d : Nat) : ∀ (k i : Nat) (o : List Int) (c : Int), max a.length b.length + 1 - i = d → i ≤ max a.length b.length + 1 → (i = max a.length b.length + 1 → c = 0) →
    U32 o → o.length = i → 0 ≤ c → c ≤ 1 → lv o + c * P i = lv (a.take i) + lv (b.take i) → (0 < i → i = max a.length b.length + 1 → P (i - 1) ≤ lv o) →
    ∃ r, insolvencyref1_plus.l0 (k + 2 * d + 2) a b o c (i : Int) = some r ∧ U32 r ∧ lv r = lv a + lv b ∧ r.length ≤ max a.length b.length + 1 ∧ (r.length = max a.length b.length + 1 → P (r.length - 1) ≤ lv r) := by
  have hM : max a.length b.length ≤ big := by omega
  induction d with
  | zero =>
    intro k i o c hd hi hci hu hl c0 c1 hv htop
    have hi' : i = max a.length b.length + 1 := by omega
    have ca : ¬ ((i : Int) < ((a.length : Nat) : Int)) := by omega
    have cb : ¬ ((i : Int) < ((b.length : Nat) : Int)) := by omega
    have cc : ¬ c > 0 := by have := hci hi'; omega
    refine ⟨o, ?_, hu, ?_, by omega, fun _ => ?_⟩
    · rw [show k + 2 * 0 + 2 = (k + 1) + 1 by omega, insolvencyref1_plus.l0, if_neg ca, if_neg cb, decide_eq_false cc, insolvencyref1_plus.j1, if_neg (by decide)]
    · rw [hci hi', List.take_of_length_le (by omega), List.take_of_length_le (by omega)] at hv
      omega
    · rw [hl]; exact htop (by omega) hi'
  | succ d ih =>
    intro k i o c hd hi hci hu hl c0 c1 hv htop
    have e5 : Aside0 (wrap64 ((i : Int) + 1) = ((i + 1 : Nat) : Int)) := Aside0.mk <| by rw [wI _ ⟨by omega, by unfold big at hM; omega⟩]; omega
    have hob : o.length < 35184372088832 := by unfold big at hM; omega
    obtain ⟨a0, a1⟩ := U32_getD ha i
    obtain ⟨b0, b1⟩ := U32_getD hb i
    -- one more place
    have go : ∀ w : Int, w = c + a.getD i 0 + b.getD i 0 → (i = max a.length b.length → c = 1) →
        ∃ r, insolvencyref1_plus.l0 (k + 2 * d + 2) a b (o ++ [w % 4294967296]) (w / 4294967296) ((i + 1 : Nat) : Int) = some r ∧ U32 r ∧ lv r = lv a + lv b ∧ r.length ≤ max a.length b.length + 1 ∧ (r.length = max a.length b.length + 1 → P (r.length - 1) ≤ lv r) := by
      intro w hw hlast
      have hP := P_pos i
      refine ih k (i + 1) _ _ (by omega) (by omega) (fun h => ?_) (U32_append.2 ⟨hu, U32_cons.2 ⟨by omega, U32_nil⟩⟩) (by rw [List.length_append, hl]; rfl) (by omega) (by omega) ?_ (fun _ h => ?_)
      · have ha0 := rd_none a i (by omega)
        have hb0 := rd_none b i (by omega)
        omega
      · rw [lv_append, lv_one, hl, lv_take_any a i, lv_take_any b i, P_succ]
        have hq := Int.emod_add_mul_ediv w 4294967296
        generalize w % 4294967296 = r at *
        generalize w / 4294967296 = q at *
        subst hw
        clear ih
        grind
      · have hc1 := hlast (by omega)
        have ha0 := rd_none a i (by omega)
        have hb0 := rd_none b i (by omega)
        have hw1 : w % 4294967296 = 1 := by omega
        rw [lv_append, lv_one, hl, hw1, Int.mul_one, Nat.add_sub_cancel]
        have := (lv_bounds hu).1
        omega
    rw [show k + 2 * (d + 1) + 2 = ((k + 2 * d + 2) + 1) + 1 by omega, insolvencyref1_plus.l0]
    have c0' : (0 : Int) ≤ (i : Int) := by omega
    by_cases ca : (i : Int) < ((a.length : Nat) : Int)
    · rw [if_pos ca, insolvencyref1_plus.j1, if_pos rfl, if_pos ca, if_pos c0', rdn, e5.out, u64 (a.getD i 0) a0 (by omega), u64 (c + a.getD i 0) (by omega) (by omega)]
      by_cases cb : (i : Int) < ((b.length : Nat) : Int)
      · rw [if_pos cb, if_pos hob, rdn, u64 (b.getD i 0) b0 (by omega), u64 _ (by omega) (by omega)]
        exact go _ rfl (fun h => by omega)
      · rw [if_neg cb, if_pos hob]
        have hb0 := rd_none b i (by omega)
        exact go _ (by omega) (fun h => by omega)
    · rw [if_neg ca]
      have ha0 := rd_none a i (by omega)
      by_cases cb : (i : Int) < ((b.length : Nat) : Int)
      · rw [if_pos cb, insolvencyref1_plus.j1, if_pos rfl, if_neg ca, if_pos cb, if_pos c0', if_pos hob, rdn, e5.out, u64 (b.getD i 0) b0 (by omega), u64 _ (by omega) (by omega)]
        exact go _ (by omega) (fun h => by omega)
      · rw [if_neg cb]
        have hb0 := rd_none b i (by omega)
        by_cases cc : c > 0
        · rw [decide_eq_true cc, insolvencyref1_plus.j1, if_pos rfl, if_neg ca, if_neg cb, if_pos hob, e5.out]
          exact go _ (by omega) (fun _ => by omega)
        · rw [decide_eq_false cc, insolvencyref1_plus.j1, if_neg (by decide)]
          refine ⟨o, rfl, hu, ?_, by omega, fun h => htop (by omega) (by omega) |> fun h => by rw [hl]; exact h⟩
          have hc : c = 0 := by omega
          rw [hc, List.take_of_length_le (by omega), List.take_of_length_le (by omega)] at hv
          omega
end Go.Proofs.Ytljenpakncmlkaa.RN
