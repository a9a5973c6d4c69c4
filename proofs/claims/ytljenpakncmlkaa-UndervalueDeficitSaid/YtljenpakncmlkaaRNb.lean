/- The reference's natural numbers: text and limbs. -/
import Derived.Test.YtljenpakncmlkaaRNa
import Derived.Laws.BitsAllLaws
namespace Go.Proofs.Ytljenpakncmlkaa.RN
open Go.RowKit Go.Proofs.YtljenpakncmlkaaW.PrintWords Go.Proofs.YtljenpakncmlkaaW.PrintMore Go.Proofs.Ytljenpakncmlkaa.PAll Go.Proofs.Ytljenpakncmlkaa.Mth

/-! ### text -/
theorem bl_str (l : List Int) (h : B8 l) : bl (strOfNums l) = l := by
  unfold bl
  rw [strOfNums_data, List.map_map]
  conv => rhs; rw [← List.map_id l]
  refine List.map_congr_left (fun x hx => ?_)
  obtain ⟨h0, h1⟩ := h x hx
  show ((UInt8.ofNat x.toNat).toNat : Int) = x
  rw [UInt8.toNat_ofNat', Nat.mod_eq_of_lt (by omega)]
  omega
theorem bev_app4 (a : List Int) (x y z w : Int) : bev (a ++ [x, y, z, w]) = bev a * 4294967296 + (x * 16777216 + y * 65536 + z * 256 + w) := by
  unfold bev
  rw [List.foldl_append]
  simp only [List.foldl_cons, List.foldl_nil]
  omega
theorem B8_app {a b : List Int} (ha : B8 a) (hb : B8 b) : B8 (a ++ b) := fun x hx => (List.mem_append.1 hx).elim (ha x) (hb x)
theorem text_loop (l : List Int) (hu : U32 l) (hl : l.length ≤ big) : ∀ (i k : Nat) (x : List Int), i ≤ l.length → B8 x → x.length + 4 * i = 4 * l.length → bev x = lv (l.drop i) → 4 * l.length < k →
    ∃ r, insolvencyref1_text.l0 (k + i + 1) l x ((i : Int) - 1) = some r ∧ NormIs (lv l) r ∧ r.size ≤ 4 * l.length := by
  intro i
  induction i with
  | zero =>
    intro k x _ hx hlen hv hk
    have hsz : (strOfNums x).size = x.length := strOfNums_size x
    obtain ⟨r, h1, h2, h3⟩ := norm_loop (strOfNums x) (by omega) (strOfNums x).size (k - (strOfNums x).size - 1) 0 rfl (Nat.zero_le _)
    refine ⟨r, ?_, ?_, by omega⟩
    · rw [insolvencyref1_text.l0, if_neg (by omega)]
      rw [show k - (strOfNums x).size - 1 + (strOfNums x).size + 1 = k by omega] at h1
      unfold insolvencyref1_Normalize.f
      have h1' : insolvencyref1_Normalize.l0 k (strOfNums x) 0 = some r := h1
      show (insolvencyref1_Normalize.l0 k (strOfNums x) 0).bind _ = some r
      rw [h1']
      rfl
    · rw [List.drop_zero, bl_str x hx, hv, List.drop_zero] at h2
      exact h2
  | succ i ih =>
    intro k x hi hx hlen hv hk
    have e0 : ((i + 1 : Nat) : Int) - 1 = (i : Int) := by omega
    have e : wrap64 ((i : Int) - 1) = (i : Int) - 1 := wI _ ⟨by omega, by unfold big at hl; omega⟩
    obtain ⟨d0, d1⟩ := U32_getD hu i
    rw [show k + (i + 1) + 1 = (k + i + 1) + 1 by omega, insolvencyref1_text.l0, e0, if_pos (by omega), if_pos (by omega), if_pos (by omega), Option.bind_some, e, rdn]
    clear e
    have hx' : B8 [l.getD i 0 / 16777216 % 256, l.getD i 0 / 65536 % 256, l.getD i 0 / 256 % 256, l.getD i 0 % 256] := by
      intro y hy
      simp only [List.mem_cons, List.not_mem_nil, or_false] at hy
      omega
    rw [if_pos (by simp only [List.length_cons, List.length_nil]; unfold big at hl; omega)]
    refine ih k _ (by omega) (B8_app hx hx') (by rw [List.length_append]; simp only [List.length_cons, List.length_nil]; omega) ?_ hk
    rw [bev_app4, hv, lv_drop_cons l i (by omega)]
    omega
theorem text_ev (l : List Int) (hu : U32 l) (hl : l.length ≤ big) : ∃ r, Ev (fun k => insolvencyref1_text.f k l) r ∧ NormIs (lv l) r ∧ r.size ≤ 4 * l.length := by
  have hs := stripL_is l hu
  obtain ⟨r, h1, h2, h3⟩ := text_loop (stripL l) hs.u (Nat.le_trans hs.len hl) (stripL l).length (4 * (stripL l).length + 1) [] (Nat.le_refl _) (fun _ h => by cases h) (by simp) (by rw [List.drop_length]; rfl) (by omega)
  rw [hs.v] at h2
  refine ⟨r, ?_, h2, Nat.le_trans h3 (Nat.mul_le_mul_left 4 hs.len)⟩
  unfold insolvencyref1_text.f
  refine Ev.bind (strip_ev l hl) ?_
  have hl' := Nat.le_trans hs.len hl
  have e1 : wrap64 (4 * (((stripL l).length : Nat) : Int)) = 4 * (((stripL l).length : Nat) : Int) := wI _ ⟨by omega, by unfold big at hl'; omega⟩
  have e2 : wrap64 ((((stripL l).length : Nat) : Int) - 1) = (((stripL l).length : Nat) : Int) - 1 := wI _ ⟨by omega, by unfold big at hl'; omega⟩
  have c1 : (0 : Int) ≤ 4 * (((stripL l).length : Nat) : Int) := by omega
  have c2 : (4 * (((stripL l).length : Nat) : Int)).toNat ≤ 281474976710656 := by unfold big at hl'; omega
  rw [e1, e2]
  clear e1 e2
  simp only [c1, c2, if_true]
  exact Ev.of (fun k => insolvencyref1_text.mono_l k _ _ _) h1
/-! ### limbs -/
theorem shl8 (i : Nat) (x : Int) (hx : 0 ≤ x ∧ x < 256) : ((x % 4294967296) * 2 ^ min (8 * (i % 4)) 32) % 4294967296 = x * Q (i % 4) := by
  have h4 : i % 4 < 4 := Nat.mod_lt _ (by decide)
  have h : i % 4 = 0 ∨ i % 4 = 1 ∨ i % 4 = 2 ∨ i % 4 = 3 := by omega
  rcases h with h | h | h | h <;> rw [h] <;> simp [Q] <;> omega
theorem or8 (i : Nat) (x y : Int) (hx : 0 ≤ x) (hx1 : x < Q (i % 4)) (hy : 0 ≤ y ∧ y < 256) : Go.bits .or .u32 x (y * Q (i % 4)) = x + y * Q (i % 4) ∧ x + y * Q (i % 4) < 4294967296 := by
  have h4 : i % 4 < 4 := Nat.mod_lt _ (by decide)
  obtain ⟨xn, rfl⟩ := Int.eq_ofNat_of_zero_le hx
  obtain ⟨yn, rfl⟩ := Int.eq_ofNat_of_zero_le hy.1
  have h : ∃ s, s ≤ 24 ∧ (2 ^ s : Nat) ≤ 16777216 ∧ Q (i % 4) = ((2 ^ s : Nat) : Int) := by
    have h : i % 4 = 0 ∨ i % 4 = 1 ∨ i % 4 = 2 ∨ i % 4 = 3 := by omega
    rcases h with h | h | h | h <;> rw [h]
    · exact ⟨0, by decide, by decide, rfl⟩
    · exact ⟨8, by decide, by decide, rfl⟩
    · exact ⟨16, by decide, by decide, rfl⟩
    · exact ⟨24, by decide, by decide, rfl⟩
  obtain ⟨s, _, hs2, hq⟩ := h
  rw [hq] at hx1 ⊢
  have hxl : xn < 2 ^ s := by omega
  have hyl : yn * 2 ^ s ≤ 255 * 16777216 := Nat.mul_le_mul (by omega) hs2
  have e : ((yn : Int)) * ((2 ^ s : Nat) : Int) = ((yn * 2 ^ s : Nat) : Int) := by rw [Int.natCast_mul]
  rw [e, u32_or_nat xn (yn * 2 ^ s) (by omega) (by omega), or_shift xn yn s hxl]
  constructor
  · rw [Int.natCast_add]
  · omega
theorem limbs_loop (b : ByteArray) (hb : b.size ≤ 4 * big) (d : Nat) : ∀ (k i : Nat) (x : List Int), b.size - i = d → i ≤ b.size → U32 x → x.length = (b.size + 3) / 4 → lv x = le8 ((bl b).reverse.take i) →
    ∃ r, insolvencyref1_limbs.l0 (k + d + 1) b x (i : Int) = some r ∧ U32 r ∧ r.length = (b.size + 3) / 4 ∧ lv r = bev (bl b) := by
  have hr : (bl b).reverse.length = b.size := by rw [List.length_reverse, bl_len]
  induction d with
  | zero =>
    intro k i x hd hi hx hlen hv
    refine ⟨x, by rw [insolvencyref1_limbs.l0, if_neg (by omega)], hx, hlen, ?_⟩
    rw [hv, List.take_of_length_le (by omega), bev_le8]
  | succ d ih =>
    intro k i x hd hi hx hlen hv
    have hlt : i < b.size := by omega
    have e1 : Aside0 (wrap64 (Int.tdiv (i : Int) 4) = ((i / 4 : Nat) : Int)) := Aside0.mk <| by
      rw [Int.tdiv_eq_ediv_of_nonneg (by omega), wI _ ⟨by omega, by unfold big at hb; omega⟩]; omega
    have e2 : Aside0 (wrap64 (((b.size : Nat) : Int) - 1) = ((b.size - 1 : Nat) : Int)) := Aside0.mk <| by rw [wI _ ⟨by omega, by unfold big at hb; omega⟩]; omega
    have e3 : Aside0 (wrap64 (((b.size - 1 : Nat) : Int) - (i : Int)) = ((b.size - 1 - i : Nat) : Int)) := Aside0.mk <| by rw [wI _ ⟨by unfold big at hb; omega, by unfold big at hb; omega⟩]; omega
    have e4 : Aside0 (IntKind.u64.wrap (wrap64 (8 * Int.tmod (i : Int) 4)) = ((8 * (i % 4) : Nat) : Int)) := Aside0.mk <| by
      rw [Int.tmod_eq_emod_of_nonneg (by omega), wI _ ⟨by omega, by omega⟩, u64 _ (by omega) (by omega)]; omega
    have e5 : Aside0 (wrap64 ((i : Int) + 1) = ((i + 1 : Nat) : Int)) := Aside0.mk <| by rw [wI _ ⟨by omega, by unfold big at hb; omega⟩]; omega
    have hj : i / 4 < x.length := by rw [hlen]; omega
    have eb : (bl b).reverse.getD i 0 = (bl b).getD (b.size - 1 - i) 0 := by
      rw [List.getD_eq_getElem?_getD, List.getD_eq_getElem?_getD, List.getElem?_reverse (by rw [bl_len]; exact hlt), bl_len]
    have hy := B8_getD (bl_B8 b) (b.size - 1 - i)
    have hq : Q i = Q (i % 4) * P (i / 4) := by rw [← Q_P, ← Q_add]; congr 1; omega
    have hx0 := U32_getD hx (i / 4)
    have hlow : lv x < Q (i % 4) * P (i / 4) := by
      rw [hv, ← hq]
      have := (le8_bounds (fun z hz => B8_rev (bl_B8 b) z (List.mem_of_mem_take hz) : B8 ((bl b).reverse.take i))).2
      rw [List.length_take, hr, Nat.min_eq_left (by omega)] at this
      exact this
    have hdig := digit_lt hx hj hlow
    obtain ⟨o1, o2⟩ := or8 i (x.getD (i / 4) 0) ((bl b).getD (b.size - 1 - i) 0) hx0.1 hdig hy
    rw [show k + (d + 1) + 1 = (k + d + 1) + 1 by omega, insolvencyref1_limbs.l0, if_pos (by omega), e1.out, e2.out, e3.out, e4.out, e5.out, if_pos (by omega), if_pos (by omega), if_pos (by omega), if_pos (by omega), if_pos (by omega), Int.toNat_natCast, Int.toNat_natCast, rdn, bl_bt, shl8 i _ hy, o1]
    have hQ := Q_pos (i % 4)
    have hmul := Int.mul_nonneg hy.1 (show 0 ≤ Q (i % 4) by omega)
    refine ih k (i + 1) _ (by omega) (by omega) (U32_set hx _ (by omega) o2) (by rw [List.length_set]; exact hlen) ?_
    rw [lv_set hj, le8_take_succ (by omega), hv, eb, hq, ← Int.mul_assoc]
    congr 2
    omega
structure LimbsIs (v : Int) (n : Nat) (r : List Int) : Prop where
  u : U32 r
  tr : Tr r
  v : lv r = v
  len : r.length ≤ n
theorem limbs_ev (b : ByteArray) (hb : b.size ≤ 4 * big) : ∃ r, Ev (fun k => insolvencyref1_limbs.f k b) r ∧ LimbsIs (bev (bl b)) ((b.size + 3) / 4) r := by
  obtain ⟨c, c1, c2, c3⟩ := norm_ev b hb
  have e1 : Aside0 (wrap64 (Int.tdiv (wrap64 (((c.size : Nat) : Int) + 3)) 4) = (((c.size + 3) / 4 : Nat) : Int)) := Aside0.mk <| by
    rw [wI (((c.size : Nat) : Int) + 3) ⟨by omega, by unfold big at hb; omega⟩, Int.tdiv_eq_ediv_of_nonneg (by omega), wI _ ⟨by omega, by unfold big at hb; omega⟩]; omega
  obtain ⟨r, r1, r2, r3, r4⟩ := limbs_loop c (by omega) c.size 0 0 (List.replicate ((c.size + 3) / 4) 0) rfl (Nat.zero_le _) (U32_replicate _) List.length_replicate (by rw [lv_replicate, List.take_zero]; rfl)
  rw [c2.v] at r4
  refine ⟨r, ?_, r2, ?_, r4, by rw [r3]; omega⟩
  · unfold insolvencyref1_limbs.f
    refine Ev.bind c1 ?_
    have d1 : (0 : Int) ≤ (((c.size + 3) / 4 : Nat) : Int) := by omega
    have d2 : (c.size + 3) / 4 ≤ 70368744177664 := by unfold big at hb; omega
    rw [e1.out]
    simp only [d1, if_true, Int.toNat_natCast, d2]
    exact Ev.of (fun k => insolvencyref1_limbs.mono_l k _ _ _) r1
  · refine Tr_of_low r2 (fun hp => ?_)
    have hcs : 0 < c.size := by omega
    have := NZ_low (bl_B8 c) c2.nz (by rw [bl_len]; exact hcs)
    rw [bl_len, c2.v] at this
    rw [r4, ← Q_P]
    have := Q_mono (show 4 * (r.length - 1) ≤ c.size - 1 by omega)
    omega
end Go.Proofs.Ytljenpakncmlkaa.RN
