/- The reference's natural numbers: plus (end), minus, short. -/
import Derived.Test.YtljenpakncmlkaaRNc
import Derived.Test.YtljenpakncmlkaaPAllx7
namespace Go.Proofs.Ytljenpakncmlkaa.RN
open Go.RowKit Go.Proofs.YtljenpakncmlkaaW.PrintWords Go.Proofs.YtljenpakncmlkaaW.PrintMore Go.Proofs.Ytljenpakncmlkaa.PAll Go.Proofs.Ytljenpakncmlkaa.Mth

theorem plus_ev (a b : List Int) (ha : U32 a) (hb : U32 b) (hta : Tr a) (htb : Tr b) (hn : a.length ≤ big ∧ b.length ≤ big) : ∃ r, Ev (fun k => insolvencyref1_plus.f k a b) r ∧ TimesIs (lv a + lv b) (max a.length b.length + 1) r := by
  obtain ⟨r, h1, h2, h3, h4, h5⟩ := plus_loop a b ha hb hn (max a.length b.length + 1) 0 0 [] 0 rfl (Nat.zero_le _) (fun h => by omega) U32_nil rfl (Int.le_refl _) (by decide) (by simp [lv]) (fun h => absurd h (Nat.lt_irrefl _))
  refine ⟨r, Ev.of (fun k => insolvencyref1_plus.mono _ _ k) (k := 0 + 2 * (max a.length b.length + 1) + 2) h1, h2, Tr_of_low h2 (fun hp => ?_), h3, h4⟩
  by_cases c : r.length = max a.length b.length + 1
  · exact h5 c
  · rw [h3]
    have la := (lv_bounds ha).1
    have lb := (lv_bounds hb).1
    rcases Nat.le_total b.length a.length with h | h
    · have h6 := Tr_low ha hta (by omega)
      have h7 := P_mono (show r.length - 1 ≤ a.length - 1 by omega)
      omega
    · have h6 := Tr_low hb htb (by omega)
      have h7 := P_mono (show r.length - 1 ≤ b.length - 1 by omega)
      omega
/-! ### minus -/
theorem lv_set_take (o : List Int) (i : Nat) (hi : i < o.length) (v : Int) : lv ((o.set i v).take (i + 1)) = lv (o.take i) + v * P i := by
  rw [lv_take_succ (by rw [List.length_set]; exact hi), List.take_set, List.set_eq_of_length_le (by rw [List.length_take]; omega)]
  congr 2
  rw [List.getD_eq_getElem?_getD, List.getElem?_set_self hi]; rfl
theorem minus_loop (a b : List Int) (ha : U32 a) (hb : U32 b) (hn : a.length ≤ big) (hle : lv b ≤ lv a) (hlen : b.length ≤ a.length) (d : Nat) : ∀ (i : Nat) (o : List Int) (c : Int), a.length - i = d → i ≤ a.length →
    U32 o → o.length = a.length → 0 ≤ c → c ≤ 1 → lv (o.take i) - c * P i = lv (a.take i) - lv (b.take i) →
    ∃ r, Ev (fun k => insolvencyref1_minus.l0 k a b o c (i : Int)) r ∧ TimesIs (lv a - lv b) a.length r := by
  induction d with
  | zero =>
    intro i o c hd hi hu hl c0 c1 hv
    obtain rfl : i = a.length := by omega
    have hs := stripL_is o hu
    refine ⟨stripL o, ?_, hs.u, hs.tr, ?_, by have := hs.len; omega⟩
    · refine Ev.step (fun k => by simp only [insolvencyref1_minus.l0]; rfl) ?_
      simp only [Int.lt_irrefl, if_false]
      exact Ev.bind (strip_ev o (by omega)) (Ev.now _)
    · rw [hs.v]
      rw [List.take_length, List.take_of_length_le (show b.length ≤ a.length from hlen), List.take_of_length_le (by omega)] at hv
      have h1 := lv_bounds hu
      rw [hl] at h1
      have hP := P_pos a.length
      have : c = 0 ∨ c = 1 := by omega
      rcases this with rfl | rfl
      · omega
      · omega
  | succ d ih =>
    intro i o c hd hi hu hl c0 c1 hv
    have hil : i < a.length := by omega
    have e5 : Aside0 (wrap64 ((i : Int) + 1) = ((i + 1 : Nat) : Int)) := Aside0.mk <| by rw [wI _ ⟨by omega, by unfold big at hn; omega⟩]; omega
    obtain ⟨a0, a1⟩ := U32_getD ha i
    obtain ⟨b0, b1⟩ := U32_getD hb i
    have ho : (i : Int) < ((o.length : Nat) : Int) := by omega
    have go : ∀ v c' : Int, 0 ≤ v → v < 4294967296 → 0 ≤ c' → c' ≤ 1 → v = a.getD i 0 - (c + b.getD i 0) + c' * 4294967296 → ∃ r, Ev (fun k => insolvencyref1_minus.l0 k a b (o.set i v) c' ((i + 1 : Nat) : Int)) r ∧ TimesIs (lv a - lv b) a.length r := by
      intro v c' v0 v1 d0 d1 e
      refine ih (i + 1) _ c' (by omega) (by omega) (U32_set hu _ v0 v1) (by rw [List.length_set]; exact hl) d0 d1 ?_
      rw [lv_set_take o i (by omega), lv_take_any a i, lv_take_any b i, P_succ]
      clear ih
      subst e
      grind
    have put : ∀ (v c' : Int) (f : Nat → Option (List Int)), (∀ k, insolvencyref1_minus.l0 (k + 1) a b o c (i : Int) = insolvencyref1_minus.l0 k a b (o.set i v) c' ((i + 1 : Nat) : Int)) → (∃ r, Ev (fun k => insolvencyref1_minus.l0 k a b (o.set i v) c' ((i + 1 : Nat) : Int)) r ∧ TimesIs (lv a - lv b) a.length r) →
        ∃ r, Ev (fun k => insolvencyref1_minus.l0 k a b o c (i : Int)) r ∧ TimesIs (lv a - lv b) a.length r := by
      intro v c' _ h1 h2
      obtain ⟨r, h3, h4⟩ := h2
      exact ⟨r, Ev.step h1 h3, h4⟩
    have ca : (i : Int) < ((a.length : Nat) : Int) := by omega
    have ci : (0 : Int) ≤ (i : Int) := by omega
    by_cases cb : (i : Int) < ((b.length : Nat) : Int)
    · have ey : IntKind.u64.wrap (c + IntKind.u64.wrap (b.getD i 0)) = c + b.getD i 0 := by rw [u64 (b.getD i 0) b0 (by omega), u64 _ (by omega) (by omega)]
      have ex : IntKind.u64.wrap (a.getD i 0) = a.getD i 0 := u64 _ a0 (by omega)
      by_cases hlt : a.getD i 0 < c + b.getD i 0
      · refine put (a.getD i 0 - (c + b.getD i 0) + 4294967296) 1 (fun _ => none) (fun k => ?_) (go _ 1 (by omega) (by omega) (by decide) (by decide) (by omega))
        have ev : IntKind.u64.wrap (IntKind.u64.wrap (a.getD i 0 + 4294967296) - (c + b.getD i 0)) % 4294967296 = a.getD i 0 - (c + b.getD i 0) + 4294967296 := by
          rw [u64 (a.getD i 0 + 4294967296) (by omega) (by omega), u64 _ (by omega) (by omega)]; omega
        rw [insolvencyref1_minus.l0, if_pos ca, if_pos cb, if_pos ci, rdn, rdn, ey, ex, if_pos hlt, if_pos ho, ev, e5.out, Int.toNat_natCast]
      · refine put (a.getD i 0 - (c + b.getD i 0)) 0 (fun _ => none) (fun k => ?_) (go _ 0 (by omega) (by omega) (by decide) (by decide) (by omega))
        have ev : IntKind.u64.wrap (a.getD i 0 - (c + b.getD i 0)) % 4294967296 = a.getD i 0 - (c + b.getD i 0) := by
          rw [u64 _ (by omega) (by omega)]; omega
        rw [insolvencyref1_minus.l0, if_pos ca, if_pos cb, if_pos ci, rdn, rdn, ey, ex, if_neg hlt, if_pos ho, ev, e5.out, Int.toNat_natCast]
    · have hb0 := rd_none b i (by omega)
      have ex : IntKind.u64.wrap (a.getD i 0) = a.getD i 0 := u64 _ a0 (by omega)
      by_cases hlt : a.getD i 0 < c
      · refine put (a.getD i 0 - c + 4294967296) 1 (fun _ => none) (fun k => ?_) (go _ 1 (by omega) (by omega) (by decide) (by decide) (by omega))
        have ev : IntKind.u64.wrap (IntKind.u64.wrap (a.getD i 0 + 4294967296) - c) % 4294967296 = a.getD i 0 - c + 4294967296 := by
          rw [u64 (a.getD i 0 + 4294967296) (by omega) (by omega), u64 _ (by omega) (by omega)]; omega
        rw [insolvencyref1_minus.l0, if_pos ca, if_neg cb, if_pos ci, rdn, ex, if_pos hlt, if_pos ho, ev, e5.out, Int.toNat_natCast]
      · refine put (a.getD i 0 - c) 0 (fun _ => none) (fun k => ?_) (go _ 0 (by omega) (by omega) (by decide) (by decide) (by omega))
        have ev : IntKind.u64.wrap (a.getD i 0 - c) % 4294967296 = a.getD i 0 - c := by
          rw [u64 _ (by omega) (by omega)]; omega
        rw [insolvencyref1_minus.l0, if_pos ca, if_neg cb, if_pos ci, rdn, ex, if_neg hlt, if_pos ho, ev, e5.out, Int.toNat_natCast]
theorem minus_ev (a b : List Int) (ha : U32 a) (hb : U32 b) (htb : Tr b) (hn : a.length ≤ big) (hle : lv b ≤ lv a) : ∃ r, Ev (fun k => insolvencyref1_minus.f k a b) r ∧ TimesIs (lv a - lv b) a.length r := by
  obtain ⟨r, h1, h2⟩ := minus_loop a b ha hb hn hle (Tr_len ha hb htb hle) a.length 0 (List.replicate a.length 0) 0 rfl (Nat.zero_le _) (U32_replicate _) List.length_replicate (Int.le_refl _) (by decide) (by simp [lv])
  refine ⟨r, ?_, h2⟩
  have d1 : (0 : Int) ≤ ((a.length : Nat) : Int) := by omega
  have d2 : a.length ≤ 70368744177664 := by unfold big at hn; omega
  unfold insolvencyref1_minus.f
  simp only [d1, if_true, Int.toNat_natCast, d2]
  exact h1
/-! ### short -/
theorem shl_or (r x : Int) (hr : 0 ≤ r ∧ r < 4294967296) (hx : 0 ≤ x ∧ x < 4294967296) : Go.bits .or .u64 (IntKind.u64.wrap (r * 4294967296)) (IntKind.u64.wrap x) = r * 4294967296 + x := by
  rw [u64 (r * 4294967296) (by omega) (by omega), u64 x hx.1 (by omega)]
  obtain ⟨rn, rfl⟩ := Int.eq_ofNat_of_zero_le hr.1
  obtain ⟨xn, rfl⟩ := Int.eq_ofNat_of_zero_le hx.1
  have e : ((rn : Int)) * 4294967296 = ((rn * 4294967296 : Nat) : Int) := by rw [Int.natCast_mul]; rfl
  have h := or_shift xn rn 32 (by omega)
  rw [e, u64_or_nat _ _ (by omega) (by omega), Nat.or_comm]
  rw [show (2 : Nat) ^ 32 = 4294967296 from rfl] at h
  rw [h]
  omega
structure ShortIs (v d : Int) (n : Nat) (r : List Int × Int) : Prop where
  u : U32 r.1
  tr : Tr r.1
  len : r.1.length ≤ n
  v : v = lv r.1 * d + r.2
  r0 : 0 ≤ r.2
  r1 : r.2 < d
theorem drop_set_cons (o : List Int) (m : Nat) (hm : m < o.length) (v : Int) : lv ((o.set m v).drop m) = v + 4294967296 * lv (o.drop (m + 1)) := by
  rw [lv_drop_cons _ m (by rw [List.length_set]; exact hm)]
  have e1 : (o.set m v).getD m 0 = v := by rw [List.getD_eq_getElem?_getD, List.getElem?_set_self hm]; rfl
  rw [e1, List.drop_set_of_lt (by omega)]
theorem short_loop (a : List Int) (ha : U32 a) (hn : a.length ≤ big) (d : Int) (d0 : 1 ≤ d) (d1 : d < 4294967296) : ∀ (m : Nat) (o : List Int) (c : Int), m ≤ a.length → U32 o → o.length = a.length → 0 ≤ c → c < d → lv (a.drop m) = lv (o.drop m) * d + c →
    ∃ r, Ev (fun k => insolvencyref1_short.l0 k a d o c ((m : Int) - 1)) r ∧ ShortIs (lv a) d a.length r := by
  intro m
  induction m with
  | zero =>
    intro o c _ hu hl c0 c1 hv
    have hs := stripL_is o hu
    refine ⟨(stripL o, c), ?_, hs.u, hs.tr, by have := hs.len; simp only; omega, ?_, c0, c1⟩
    · refine Ev.step (fun k => by simp only [insolvencyref1_short.l0]; rfl) ?_
      have hc : ¬ ((0 : Nat) : Int) - 1 ≥ 0 := by omega
      have hcm : c % 4294967296 = c := by omega
      simp only [hc, if_false, hcm]
      exact Ev.bind (strip_ev o (by omega)) (Ev.now _)
    · rw [hs.v]
      rwa [List.drop_zero, List.drop_zero] at hv
  | succ m ih =>
    intro o c hm hu hl c0 c1 hv
    have e0 : ((m + 1 : Nat) : Int) - 1 = (m : Int) := by omega
    have e : Aside0 (wrap64 ((m : Int) - 1) = (m : Int) - 1) := Aside0.mk <| wI _ ⟨by omega, by unfold big at hn; omega⟩
    obtain ⟨x0, x1⟩ := U32_getD ha m
    have hw := shl_or c (a.getD m 0) ⟨c0, by omega⟩ ⟨x0, x1⟩
    have hw0 : 0 ≤ c * 4294967296 + a.getD m 0 := by omega
    have ht : Int.tdiv (c * 4294967296 + a.getD m 0) d = (c * 4294967296 + a.getD m 0) / d := Int.tdiv_eq_ediv_of_nonneg hw0
    have hm' : Int.tmod (c * 4294967296 + a.getD m 0) d = (c * 4294967296 + a.getD m 0) % d := Int.tmod_eq_emod_of_nonneg hw0
    have hq0 : 0 ≤ (c * 4294967296 + a.getD m 0) / d := Int.ediv_nonneg hw0 (by omega)
    have hq1 : (c * 4294967296 + a.getD m 0) / d < 4294967296 := by
      refine Int.ediv_lt_of_lt_mul (by omega) ?_
      have := Int.mul_le_mul_of_nonneg_right (show c + 1 ≤ d by omega) (show (0 : Int) ≤ 4294967296 by decide)
      rw [Int.mul_comm 4294967296 d]
      omega
    have hr0 := Int.emod_nonneg (c * 4294967296 + a.getD m 0) (show d ≠ 0 by omega)
    have hr1 := Int.emod_lt_of_pos (c * 4294967296 + a.getD m 0) (show 0 < d by omega)
    have hdm := Int.emod_add_mul_ediv (c * 4294967296 + a.getD m 0) d
    have hdv : lv (a.drop m) = lv ((o.set m ((c * 4294967296 + a.getD m 0) / d)).drop m) * d + (c * 4294967296 + a.getD m 0) % d := by
      rw [drop_set_cons o m (by omega), lv_drop_cons a m (by omega), hv]
      generalize (c * 4294967296 + a.getD m 0) / d = q at *
      generalize (c * 4294967296 + a.getD m 0) % d = s at *
      clear ih hw ht hm' hq0 hq1
      grind
    obtain ⟨r, h1, h2⟩ := ih (o.set m ((c * 4294967296 + a.getD m 0) / d)) ((c * 4294967296 + a.getD m 0) % d) (by omega) (U32_set hu _ hq0 hq1) (by rw [List.length_set]; exact hl) hr0 hr1 hdv
    refine ⟨r, Ev.step (fun k => ?_) h1, h2⟩
    have ed : IntKind.u64.wrap d = d := u64 d (by omega) (by omega)
    have eq : IntKind.u64.wrap ((c * 4294967296 + a.getD m 0) / d) % 4294967296 = (c * 4294967296 + a.getD m 0) / d := by
      rw [u64 _ hq0 (by omega)]; omega
    have ca : (m : Int) < ((a.length : Nat) : Int) := by omega
    have co : (m : Int) < ((o.length : Nat) : Int) := by omega
    have c00 : (m : Int) ≥ 0 := by omega
    rw [e0, insolvencyref1_short.l0, if_pos c00, if_pos c00, if_pos ca, ed, if_neg (by omega), if_pos co, rdn, hw, ht, hm', eq, e.out, Int.toNat_natCast]
theorem short_ev (a : List Int) (ha : U32 a) (hn : a.length ≤ big) (d : Int) (d0 : 1 ≤ d) (d1 : d < 4294967296) : ∃ r, Ev (fun k => insolvencyref1_short.f k a d) r ∧ ShortIs (lv a) d a.length r := by
  obtain ⟨r, h1, h2⟩ := short_loop a ha hn d d0 d1 a.length (List.replicate a.length 0) 0 (Nat.le_refl _) (U32_replicate _) List.length_replicate (Int.le_refl _) (by omega) (by rw [List.drop_length, List.drop_eq_nil_of_le (by rw [List.length_replicate]; exact Nat.le_refl _)]; simp [lv])
  refine ⟨r, ?_, h2⟩
  have e1 : wrap64 (((a.length : Nat) : Int) - 1) = ((a.length : Nat) : Int) - 1 := wI _ ⟨by omega, by unfold big at hn; omega⟩
  unfold insolvencyref1_short.f
  rw [e1]
  clear e1
  have d1 : (0 : Int) ≤ ((a.length : Nat) : Int) := by omega
  have d2 : a.length ≤ 70368744177664 := by unfold big at hn; omega
  simp only [d1, if_true, Int.toNat_natCast, d2]
  exact h1
end Go.Proofs.Ytljenpakncmlkaa.RN
