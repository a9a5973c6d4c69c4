/- The reference's natural numbers: what strip, order, Normalize, text and limbs compute. -/
import Derived.Test.YtljenpakncmlkaaMth
import Derived.Test.YtljenpakncmlkaaPAllx3
import Derived.Test.YtljenpakncmlkaaPAllx4
import Derived.Test.YtljenpakncmlkaaPAllx5
namespace Go.Proofs.Ytljenpakncmlkaa.RN
open Go.RowKit Go.Proofs.YtljenpakncmlkaaW.PrintWords Go.Proofs.YtljenpakncmlkaaW.PrintMore Go.Proofs.Ytljenpakncmlkaa.PAll Go.Proofs.Ytljenpakncmlkaa.Mth

def I64 (x : Int) : Prop := -9223372036854775808 ≤ x ∧ x < 9223372036854775808
theorem wI (x : Int) (h : I64 x) : wrap64 x = x := by obtain ⟨h0, h1⟩ := h; unfold wrap64; omega
theorem rdn (l : List Int) (i : Nat) : rd l (i : Int) = l.getD i 0 := by unfold rd; rw [Int.toNat_natCast]
theorem u64 (x : Int) (h0 : 0 ≤ x) (h1 : x < 18446744073709551616) : IntKind.u64.wrap x = x := by simp [IntKind.wrap, IntKind.bits, IntKind.signed]; omega
/-- The greatest length that is spoken of. -/
abbrev big : Nat := 17592186044416
/-! ### strip -/
def sl (l : List Int) : Nat → Nat
  | 0 => 0
  | i + 1 => if l.getD i 0 = 0 then sl l i else i + 1
theorem sl_le (l : List Int) (i : Nat) : sl l i ≤ i := by
  induction i with
  | zero => exact Nat.le_refl _
  | succ i ih => unfold sl; split <;> omega
def stripL (l : List Int) : List Int := l.take (sl l l.length)
theorem strip_loop (l : List Int) (hl : l.length ≤ big) : ∀ (i k : Nat), i ≤ l.length → insolvencyref1_strip.l0 (k + i + 1) l (i : Int) = some (l.take (sl l i)) := by
  intro i
  induction i with
  | zero =>
    intro k _
    rw [insolvencyref1_strip.l0, if_neg (by omega), if_pos (by omega), if_pos (by omega)]
    rfl
  | succ i ih =>
    intro k hi
    have e : wrap64 (((i + 1 : Nat) : Int) - 1) = (i : Int) := by rw [wI _ ⟨by omega, by unfold big at hl; omega⟩]; omega
    rw [show k + (i + 1) + 1 = (k + i + 1) + 1 by omega, insolvencyref1_strip.l0, if_pos (by omega), e, if_pos (by omega), if_pos (by omega), rdn]
    unfold sl
    split
    · exact ih k (by omega)
    · rw [if_pos (by omega), if_pos (by omega), Int.toNat_natCast]
theorem strip_ev (l : List Int) (hl : l.length ≤ big) : Ev (fun k => insolvencyref1_strip.f k l) (stripL l) :=
  Ev.of (fun k => insolvencyref1_strip.mono _ k) (k := 0 + l.length + 1) (strip_loop l hl l.length 0 (Nat.le_refl _))
theorem sl_zero (l : List Int) : ∀ i m : Nat, sl l i ≤ m → m < i → l.getD m 0 = 0 := by
  intro i
  induction i with
  | zero => intro m _ h; omega
  | succ i ih =>
    intro m h1 h2
    unfold sl at h1
    split at h1
    · rename_i h0
      by_cases c : m = i
      · subst c; exact h0
      · exact ih m h1 (by omega)
    · omega
theorem sl_top (l : List Int) : ∀ i : Nat, 0 < sl l i → l.getD (sl l i - 1) 0 ≠ 0 := by
  intro i
  induction i with
  | zero => intro h; exact absurd h (by unfold sl; omega)
  | succ i ih =>
    intro h
    unfold sl at h ⊢
    split
    · rename_i h0
      rw [if_pos h0] at h
      exact ih h
    · rename_i h0
      exact h0
theorem getD_take (l : List Int) (n m : Nat) (h : m < n) : (l.take n).getD m 0 = l.getD m 0 := by
  rw [List.getD_eq_getElem?_getD, List.getD_eq_getElem?_getD, List.getElem?_take_of_lt h]
structure StripIs (l r : List Int) : Prop where
  u : U32 r
  tr : Tr r
  v : lv r = lv l
  len : r.length ≤ l.length
theorem stripL_is (l : List Int) (h : U32 l) : StripIs l (stripL l) := by
  have hle := sl_le l l.length
  have hlen : (stripL l).length = sl l l.length := by unfold stripL; rw [List.length_take]; omega
  refine ⟨U32_take h _, fun hp => ?_, ?_, by rw [hlen]; exact hle⟩
  · rw [hlen] at hp ⊢
    unfold stripL
    rw [getD_take _ _ _ (by omega)]
    exact sl_top l l.length hp
  · unfold stripL
    exact lv_high_zero _ hle (fun m h1 h2 => sl_zero l l.length m h1 h2)
/-! ### order -/
def sgn3 (x y : Int) : Int := if x < y then -1 else if x = y then 0 else 1
theorem sgn3_lt {x y : Int} (h : x < y) : sgn3 x y = -1 := by unfold sgn3; rw [if_pos h]
theorem sgn3_gt {x y : Int} (h : y < x) : sgn3 x y = 1 := by unfold sgn3; rw [if_neg (by omega), if_neg (by omega)]
theorem top_lt {a b : List Int} (ha : U32 a) (hb : U32 b) (i : Nat) (hia : i < a.length) (hib : i < b.length) (h : a.getD i 0 < b.getD i 0) : lv (a.take (i + 1)) < lv (b.take (i + 1)) := by
  rw [lv_take_succ hia, lv_take_succ hib]
  have h1 := (lv_bounds (U32_take ha i)).2
  have h2 := (lv_bounds (U32_take hb i)).1
  rw [List.length_take, Nat.min_eq_left (by omega)] at h1
  have h3 := P_pos i
  have h4 := Int.mul_le_mul_of_nonneg_right (show a.getD i 0 + 1 ≤ b.getD i 0 by omega) (show 0 ≤ P i by omega)
  rw [Int.add_mul, Int.one_mul] at h4
  omega
theorem order_loop (a b : List Int) (ha : U32 a) (hb : U32 b) (hl : a.length = b.length) (hn : a.length ≤ big) : ∀ (i k : Nat), i ≤ a.length →
    insolvencyref1_order.l0 (k + i + 1) a b ((i : Int) - 1) = some (sgn3 (lv (a.take i)) (lv (b.take i))) := by
  intro i
  induction i with
  | zero => intro k _; rw [insolvencyref1_order.l0, if_neg (by omega)]; rfl
  | succ i ih =>
    intro k hi
    have e0 : ((i + 1 : Nat) : Int) - 1 = (i : Int) := by omega
    have e : wrap64 ((i : Int) - 1) = (i : Int) - 1 := wI _ ⟨by omega, by unfold big at hn; omega⟩
    rw [show k + (i + 1) + 1 = (k + i + 1) + 1 by omega, insolvencyref1_order.l0, e0, if_pos (by omega), if_pos (by omega), if_pos (by omega), if_pos (by omega), rdn, rdn, e]
    clear e
    split
    · rename_i hd
      rw [ih k (by omega), lv_take_succ (by omega), lv_take_succ (by omega), hd]
      congr 1
      unfold sgn3
      split
      · rw [if_pos (by omega)]
      · split
        · rw [if_neg (by omega), if_pos (by omega)]
        · rw [if_neg (by omega), if_neg (by omega)]
    · rename_i hd
      split
      · rename_i hlt
        rw [sgn3_lt (top_lt ha hb i (by omega) (by omega) hlt)]
      · rename_i hlt
        rw [sgn3_gt (top_lt hb ha i (by omega) (by omega) (by omega))]
theorem order_ev (a b : List Int) (ha : U32 a) (hb : U32 b) (hta : Tr a) (htb : Tr b) (hn : a.length ≤ big) : Ev (fun k => insolvencyref1_order.f k a b) (sgn3 (lv a) (lv b)) := by
  unfold insolvencyref1_order.f
  by_cases c : a.length = b.length
  · have c' : ((a.length : Nat) : Int) = ((b.length : Nat) : Int) := by omega
    simp only [c', if_true]
    refine ⟨a.length + 1, fun k hk => ?_⟩
    obtain ⟨m, rfl⟩ : ∃ m, k = m + a.length + 1 := ⟨k - a.length - 1, by omega⟩
    have := order_loop a b ha hb c hn a.length m (Nat.le_refl _)
    rw [List.take_length, c, List.take_length] at this
    rw [wI _ ⟨by omega, by unfold big at hn; omega⟩, c]
    exact this
  · have c' : ¬ ((a.length : Nat) : Int) = ((b.length : Nat) : Int) := by omega
    simp only [c', if_false]
    by_cases hlt : a.length < b.length
    · have c1 : ((a.length : Nat) : Int) < ((b.length : Nat) : Int) := by omega
      simp only [c1, if_true]
      have : lv a < lv b := by
        by_cases h : lv a < lv b
        · exact h
        · have := Tr_len ha hb htb (by omega); omega
      rw [sgn3_lt this]
      exact Ev.now _
    · have c1 : ¬ ((a.length : Nat) : Int) < ((b.length : Nat) : Int) := by omega
      simp only [c1, if_false]
      have : lv b < lv a := by
        by_cases h : lv b < lv a
        · exact h
        · have := Tr_len hb ha hta (by omega); omega
      rw [sgn3_gt this]
      exact Ev.now _
/-! ### Normalize -/
structure NormIs (v : Int) (r : ByteArray) : Prop where
  nz : NZ (bl r)
  v : bev (bl r) = v
theorem getD_drop (l : List Int) (i : Nat) : (l.drop i).getD 0 0 = l.getD i 0 := by
  rw [List.getD_eq_getElem?_getD, List.getD_eq_getElem?_getD, List.getElem?_drop, Nat.add_zero]
theorem norm_loop (b : ByteArray) (hb : b.size ≤ 4 * big) (d : Nat) : ∀ (k i : Nat), b.size - i = d → i ≤ b.size → ∃ r, insolvencyref1_Normalize.l0 (k + d + 1) b (i : Int) = some r ∧ NormIs (bev ((bl b).drop i)) r ∧ r.size ≤ b.size := by
  induction d with
  | zero =>
    intro k i hd hi
    refine ⟨b.extract i b.size, ?_, ⟨?_, by rw [bl_extract]⟩, by simp [ByteArray.size_extract]⟩
    · rw [insolvencyref1_Normalize.l0, if_neg (by omega), if_pos (by omega), if_pos (by omega), Int.toNat_natCast]
    · rw [bl_extract, List.drop_eq_nil_of_le (by rw [bl_len]; omega)]
      intro h
      exact absurd h (Nat.lt_irrefl 0)
  | succ d ih =>
    intro k i hd hi
    have e : wrap64 ((i : Int) + 1) = ((i + 1 : Nat) : Int) := by rw [wI _ ⟨by omega, by unfold big at hb; omega⟩]; omega
    have hlt : i < (bl b).length := by rw [bl_len]; omega
    have hc : (bl b).drop i = (bl b).getD i 0 :: (bl b).drop (i + 1) := by
      rw [List.drop_eq_getElem_cons hlt, List.getD_eq_getElem?_getD, List.getElem?_eq_getElem hlt]; rfl
    rw [show k + (d + 1) + 1 = (k + d + 1) + 1 by omega, insolvencyref1_Normalize.l0, if_pos (by omega), if_pos (by omega), bl_bt]
    by_cases h0 : (bl b).getD i 0 = 0
    · rw [if_pos h0, e, hc, h0, bev_zero]
      exact ih k (i + 1) (by omega) (by omega)
    · rw [if_neg h0, if_pos (by omega), Int.toNat_natCast]
      refine ⟨_, rfl, ⟨?_, by rw [bl_extract]⟩, by simp [ByteArray.size_extract]⟩
      rw [bl_extract]
      intro _
      rw [getD_drop]
      exact h0
theorem norm_ev (b : ByteArray) (hb : b.size ≤ 4 * big) : ∃ r, Ev (fun k => insolvencyref1_Normalize.f k b) r ∧ NormIs (bev (bl b)) r ∧ r.size ≤ b.size := by
  obtain ⟨r, h1, h2, h3⟩ := norm_loop b hb b.size 0 0 rfl (Nat.zero_le _)
  exact ⟨r, Ev.of (fun k => insolvencyref1_Normalize.mono _ k) (k := 0 + b.size + 1) h1, h2, h3⟩
end Go.Proofs.Ytljenpakncmlkaa.RN
