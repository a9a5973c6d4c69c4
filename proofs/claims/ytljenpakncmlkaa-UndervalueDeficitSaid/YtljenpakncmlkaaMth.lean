/- Lists of digits in base 2^32 and of bytes: what numbers they stand for. -/
import Derived.Test.YtljenpakncmlkaaPAllx0
namespace Go.Proofs.Ytljenpakncmlkaa.Mth
open Go.Proofs.YtljenpakncmlkaaW.PrintWords
/-- The value of a list of digits in base 2^32, the least significant one first. -/
def lv : List Int → Int
  | [] => 0
  | x :: xs => x + 4294967296 * lv xs
/-- The power of the base. -/
def P (n : Nat) : Int := 4294967296 ^ n
/-- Each digit is in its range. -/
def U32 (l : List Int) : Prop := ∀ x ∈ l, 0 ≤ x ∧ x < 4294967296

theorem P_zero : P 0 = 1 := rfl
theorem P_succ (n : Nat) : P (n + 1) = P n * 4294967296 := by unfold P; exact Int.pow_succ ..
theorem P_one : P 1 = 4294967296 := rfl
theorem P_add (m n : Nat) : P (m + n) = P m * P n := by unfold P; exact Int.pow_add ..
theorem P_pos (n : Nat) : 0 < P n := Int.pow_pos (by decide)
theorem P_mono {m n : Nat} (h : m ≤ n) : P m ≤ P n := by
  obtain ⟨d, rfl⟩ := Nat.exists_eq_add_of_le h
  rw [P_add]
  have h1 := P_pos m
  have h2 := P_pos d
  have := Int.mul_le_mul_of_nonneg_left (show 1 ≤ P d by omega) (show 0 ≤ P m by omega)
  omega

theorem U32_nil : U32 [] := fun _ h => by cases h
theorem U32_cons {x : Int} {xs : List Int} : U32 (x :: xs) ↔ (0 ≤ x ∧ x < 4294967296) ∧ U32 xs := by
  unfold U32; simp
theorem U32_append {a b : List Int} : U32 (a ++ b) ↔ U32 a ∧ U32 b := by
  unfold U32; simp only [List.mem_append]
  exact ⟨fun h => ⟨fun x hx => h x (.inl hx), fun x hx => h x (.inr hx)⟩, fun h x hx => hx.elim (h.1 x) (h.2 x)⟩
theorem U32_replicate (n : Nat) : U32 (List.replicate n 0) := by
  intro x hx; rw [List.mem_replicate] at hx; omega
theorem U32_take {l : List Int} (h : U32 l) (n : Nat) : U32 (l.take n) := fun x hx => h x (List.mem_of_mem_take hx)
theorem U32_drop {l : List Int} (h : U32 l) (n : Nat) : U32 (l.drop n) := fun x hx => h x (List.mem_of_mem_drop hx)
theorem U32_set {l : List Int} (h : U32 l) (i : Nat) {v : Int} (h0 : 0 ≤ v) (h1 : v < 4294967296) : U32 (l.set i v) := by
  intro x hx
  rcases List.mem_or_eq_of_mem_set hx with hx | rfl
  · exact h x hx
  · exact ⟨h0, h1⟩
theorem U32_getD {l : List Int} (h : U32 l) (i : Nat) : 0 ≤ l.getD i 0 ∧ l.getD i 0 < 4294967296 := by
  by_cases hi : i < l.length
  · rw [List.getD_eq_getElem?_getD, List.getElem?_eq_getElem hi]
    exact h _ (List.getElem_mem hi)
  · rw [List.getD_eq_getElem?_getD, List.getElem?_eq_none (by omega)]
    exact ⟨by decide, by decide⟩

theorem lv_nil : lv [] = 0 := rfl
theorem lv_cons (x : Int) (xs : List Int) : lv (x :: xs) = x + 4294967296 * lv xs := rfl
theorem lv_append (a b : List Int) : lv (a ++ b) = lv a + P a.length * lv b := by
  induction a with
  | nil => simp [lv, P]
  | cons x xs ih => simp only [List.cons_append, lv, ih, List.length_cons, P_succ]; grind
theorem lv_replicate (n : Nat) : lv (List.replicate n 0) = 0 := by
  induction n with
  | zero => rfl
  | succ n ih => simp [List.replicate_succ, lv, ih]
theorem lv_bounds {l : List Int} (h : U32 l) : 0 ≤ lv l ∧ lv l < P l.length := by
  induction l with
  | nil => exact ⟨by decide, by decide⟩
  | cons x xs ih =>
    obtain ⟨h1, h2⟩ := U32_cons.1 h
    have := ih h2
    simp only [lv, List.length_cons, P_succ]
    omega
theorem lv_set {l : List Int} {i : Nat} (hi : i < l.length) (v : Int) : lv (l.set i v) = lv l + (v - l.getD i 0) * P i := by
  induction l generalizing i with
  | nil => simp at hi
  | cons x xs ih =>
    cases i with
    | zero => simp [lv, P]; omega
    | succ i =>
      have := ih (i := i) (by simpa using hi)
      simp only [List.set_cons_succ, lv, this, List.getD_cons_succ, P_succ]
      grind
theorem lv_take_succ {l : List Int} {i : Nat} (hi : i < l.length) : lv (l.take (i + 1)) = lv (l.take i) + l.getD i 0 * P i := by
  rw [List.take_succ_eq_append_getElem hi, lv_append]
  have : (l.take i).length = i := by rw [List.length_take]; omega
  rw [this, List.getD_eq_getElem?_getD, List.getElem?_eq_getElem hi]
  simp only [lv, Option.getD_some]
  grind
theorem lv_take_drop (l : List Int) (i : Nat) (hi : i ≤ l.length) : lv l = lv (l.take i) + P i * lv (l.drop i) := by
  have h := lv_append (l.take i) (l.drop i)
  rw [List.take_append_drop] at h
  have : (l.take i).length = i := by rw [List.length_take]; omega
  rw [this] at h
  exact h
theorem lv_inj {a b : List Int} (ha : U32 a) (hb : U32 b) (hl : a.length = b.length) (h : lv a = lv b) : a = b := by
  induction a generalizing b with
  | nil => cases b with
    | nil => rfl
    | cons y ys => simp at hl
  | cons x xs ih => cases b with
    | nil => simp at hl
    | cons y ys =>
      obtain ⟨h1, h2⟩ := U32_cons.1 ha
      obtain ⟨h3, h4⟩ := U32_cons.1 hb
      simp only [lv] at h
      have e : x = y := by omega
      subst e
      rw [ih h2 h4 (by simpa using hl) (by omega)]

/-- No zero at the end. -/
def Tr (l : List Int) : Prop := 0 < l.length → l.getD (l.length - 1) 0 ≠ 0
theorem Tr_low {l : List Int} (h : U32 l) (ht : Tr l) (hp : 0 < l.length) : P (l.length - 1) ≤ lv l := by
  have h1 := lv_take_succ (l := l) (i := l.length - 1) (by omega)
  rw [show l.length - 1 + 1 = l.length by omega, List.take_length] at h1
  have h2 := (lv_bounds (U32_take h (l.length - 1))).1
  have h3 := (U32_getD h (l.length - 1)).1
  have h4 := ht hp
  have h5 := P_pos (l.length - 1)
  have := Int.mul_le_mul_of_nonneg_right (show 1 ≤ l.getD (l.length - 1) 0 by omega) (show 0 ≤ P (l.length - 1) by omega)
  omega
theorem Tr_zero {l : List Int} (h : U32 l) (ht : Tr l) : lv l = 0 ↔ l = [] := by
  constructor
  · intro h0
    by_cases hp : 0 < l.length
    · have := Tr_low h ht hp
      have := P_pos (l.length - 1)
      omega
    · exact List.eq_nil_of_length_eq_zero (by omega)
  · rintro rfl; rfl
theorem Tr_len {a b : List Int} (ha : U32 a) (hb : U32 b) (htb : Tr b) (h : lv a ≥ lv b) : b.length ≤ a.length := by
  by_cases hp : b.length ≤ a.length
  · exact hp
  · have h1 := Tr_low hb htb (by omega)
    have h2 := (lv_bounds ha).2
    have h3 := P_mono (show a.length ≤ b.length - 1 by omega)
    omega
theorem Tr_inj {a b : List Int} (ha : U32 a) (hb : U32 b) (hta : Tr a) (htb : Tr b) (h : lv a = lv b) : a = b :=
  lv_inj ha hb (Nat.le_antisymm (Tr_len hb ha hta (by omega)) (Tr_len ha hb htb (by omega))) h
/-- From the value to the last digit. -/
theorem Tr_of_low {l : List Int} (h : U32 l) (hlow : 0 < l.length → P (l.length - 1) ≤ lv l) : Tr l := by
  intro hp h0
  have h1 := lv_take_succ (l := l) (i := l.length - 1) (by omega)
  rw [show l.length - 1 + 1 = l.length by omega, List.take_length, h0] at h1
  have h2 := (lv_bounds (U32_take h (l.length - 1))).2
  rw [List.length_take, Nat.min_eq_left (by omega)] at h2
  have := hlow hp
  omega
theorem lv_drop_cons (l : List Int) (i : Nat) (hi : i < l.length) : lv (l.drop i) = l.getD i 0 + 4294967296 * lv (l.drop (i + 1)) := by
  rw [List.drop_eq_getElem_cons hi, lv_cons, List.getD_eq_getElem?_getD, List.getElem?_eq_getElem hi]
  rfl
theorem lv_one (x : Int) : lv [x] = x := by simp [lv]
theorem digit_lt {l : List Int} (h : U32 l) {j : Nat} (hj : j < l.length) {c : Int} (hv : lv l < c * P j) : l.getD j 0 < c := by
  have h1 := lv_take_drop l j (by omega)
  have h2 := (lv_bounds (U32_take h j)).1
  have h3 := lv_drop_cons l j hj
  have h4 := (lv_bounds (U32_drop h (j + 1))).1
  have h5 := P_pos j
  have h6 : P j * lv (l.drop j) < P j * c := by rw [Int.mul_comm (P j) c]; omega
  have h7 := Int.lt_of_mul_lt_mul_left h6 (by omega)
  omega
/-- Digits that are zero from a place on say nothing. -/
theorem lv_high_zero {l : List Int} (i : Nat) (hi : i ≤ l.length) (hz : ∀ m, i ≤ m → m < l.length → l.getD m 0 = 0) : lv (l.take i) = lv l := by
  have key : ∀ d i, l.length - i = d → i ≤ l.length → (∀ m, i ≤ m → m < l.length → l.getD m 0 = 0) → lv (l.take i) = lv l := by
    intro d
    induction d with
    | zero => intro i hd hi _; rw [List.take_of_length_le (by omega)]
    | succ d ih =>
      intro i hd hi hz
      have h1 := lv_take_succ (l := l) (i := i) (by omega)
      rw [hz i (Nat.le_refl _) (by omega)] at h1
      rw [← ih (i + 1) (by omega) (by omega) (fun m hm => hz m (by omega)), h1]
      omega
  exact key _ i rfl hi hz
/-! ### bytes -/
/-- The bytes of a string. -/
def bl (b : ByteArray) : List Int := b.data.toList.map (fun x => (x.toNat : Int))
def B8 (l : List Int) : Prop := ∀ x ∈ l, 0 ≤ x ∧ x < 256
theorem bl_len (b : ByteArray) : (bl b).length = b.size := by unfold bl; rw [List.length_map]; rfl
theorem bl_B8 (b : ByteArray) : B8 (bl b) := by
  intro x hx
  unfold bl at hx
  obtain ⟨y, _, rfl⟩ := List.mem_map.1 hx
  have := y.toNat_lt
  omega
theorem bl_bt (b : ByteArray) (i : Nat) : bt b (i : Int) = (bl b).getD i 0 := by
  unfold bt
  rw [Int.toNat_natCast]
  by_cases h : i < b.size
  · rw [dif_pos h, List.getD_eq_getElem?_getD, List.getElem?_eq_getElem (by rw [bl_len]; exact h)]
    simp [bl, ByteArray.getElem_eq_getElem_data]
  · rw [dif_neg h, List.getD_eq_getElem?_getD, List.getElem?_eq_none (by rw [bl_len]; omega)]
    rfl
theorem B8_getD {l : List Int} (h : B8 l) (i : Nat) : 0 ≤ l.getD i 0 ∧ l.getD i 0 < 256 := by
  by_cases hi : i < l.length
  · rw [List.getD_eq_getElem?_getD, List.getElem?_eq_getElem hi]
    exact h _ (List.getElem_mem hi)
  · rw [List.getD_eq_getElem?_getD, List.getElem?_eq_none (by omega)]
    exact ⟨by decide, by decide⟩
theorem bl_extract (b : ByteArray) (i : Nat) : bl (b.extract i b.size) = (bl b).drop i := by
  have e : (b.extract i b.size).data = b.data.extract i b.data.size := ByteArray.data_extract
  unfold bl
  rw [e, Array.toList_extract, List.extract_eq_take_drop, ← List.map_drop]
  congr 1
  exact List.take_of_length_le (by rw [List.length_drop]; exact Nat.le_refl _)
theorem bl_nil (b : ByteArray) : bl b = [] ↔ b.size = 0 := by rw [← bl_len]; exact List.length_eq_zero_iff.symm
/-- The number of bytes, the most significant one first. -/
def bev (l : List Int) : Int := l.foldl (fun s x => s * 256 + x) 0
theorem bev_app (a : List Int) (x : Int) : bev (a ++ [x]) = bev a * 256 + x := by unfold bev; rw [List.foldl_append]; rfl
theorem bev_zero (l : List Int) : bev (0 :: l) = bev l := rfl
def le8 : List Int → Int
  | [] => 0
  | x :: xs => x + 256 * le8 xs
def Q (n : Nat) : Int := 256 ^ n
theorem Q_succ (n : Nat) : Q (n + 1) = Q n * 256 := by unfold Q; exact Int.pow_succ ..
theorem Q_add (m n : Nat) : Q (m + n) = Q m * Q n := by unfold Q; exact Int.pow_add ..
theorem Q_pos (n : Nat) : 0 < Q n := Int.pow_pos (by decide)
theorem Q_P (n : Nat) : Q (4 * n) = P n := by
  induction n with
  | zero => rfl
  | succ n ih => rw [show 4 * (n + 1) = 4 * n + 4 by omega, Q_add, ih, P_succ]; rfl
theorem Q_mono {m n : Nat} (h : m ≤ n) : Q m ≤ Q n := by
  obtain ⟨d, rfl⟩ := Nat.exists_eq_add_of_le h
  rw [Q_add]
  have h1 := Q_pos m
  have h2 := Q_pos d
  have := Int.mul_le_mul_of_nonneg_left (show 1 ≤ Q d by omega) (show 0 ≤ Q m by omega)
  omega
theorem bev_rev (r : List Int) : bev r.reverse = le8 r := by
  induction r with
  | nil => rfl
  | cons x xs ih => rw [List.reverse_cons, bev_app, ih, le8]; omega
theorem bev_le8 (l : List Int) : bev l = le8 l.reverse := by rw [← bev_rev, List.reverse_reverse]
theorem le8_take_succ {l : List Int} {i : Nat} (hi : i < l.length) : le8 (l.take (i + 1)) = le8 (l.take i) + l.getD i 0 * Q i := by
  induction l generalizing i with
  | nil => simp at hi
  | cons x xs ih =>
    cases i with
    | zero => simp [le8, Q]
    | succ i =>
      have := ih (i := i) (by simpa using hi)
      simp only [List.take_succ_cons, le8, this, List.getD_cons_succ, Q_succ]
      grind
theorem le8_bounds {l : List Int} (h : B8 l) : 0 ≤ le8 l ∧ le8 l < Q l.length := by
  induction l with
  | nil => exact ⟨by decide, by decide⟩
  | cons x xs ih =>
    have h1 := h x List.mem_cons_self
    have := ih (fun y hy => h y (List.mem_cons_of_mem _ hy))
    simp only [le8, List.length_cons, Q_succ]
    omega
theorem B8_rev {l : List Int} (h : B8 l) : B8 l.reverse := fun x hx => h x (List.mem_reverse.1 hx)
theorem bev_bounds {l : List Int} (h : B8 l) : 0 ≤ bev l ∧ bev l < Q l.length := by
  rw [bev_le8, ← List.length_reverse]; exact le8_bounds (B8_rev h)
/-- No zero in front. -/
def NZ (l : List Int) : Prop := 0 < l.length → l.getD 0 0 ≠ 0
theorem NZ_low {l : List Int} (h : B8 l) (hn : NZ l) (hp : 0 < l.length) : Q (l.length - 1) ≤ bev l := by
  rw [bev_le8]
  have h1 := le8_take_succ (l := l.reverse) (i := l.length - 1) (by rw [List.length_reverse]; omega)
  rw [show l.length - 1 + 1 = l.reverse.length by rw [List.length_reverse]; omega, List.take_length] at h1
  have e : l.reverse.getD (l.length - 1) 0 = l.getD 0 0 := by
    rw [List.getD_eq_getElem?_getD, List.getD_eq_getElem?_getD, List.getElem?_reverse (by omega)]
    congr 2
    omega
  rw [e] at h1
  have h2 := (le8_bounds (fun x hx => B8_rev h x (List.mem_of_mem_take hx) : B8 (l.reverse.take (l.length - 1)))).1
  have h3 := (B8_getD h 0).1
  have h4 := hn hp
  have h5 := Q_pos (l.length - 1)
  have := Int.mul_le_mul_of_nonneg_right (show 1 ≤ l.getD 0 0 by omega) (show 0 ≤ Q (l.length - 1) by omega)
  omega
theorem NZ_zero {l : List Int} (h : B8 l) (hn : NZ l) : bev l = 0 ↔ l = [] := by
  constructor
  · intro h0
    by_cases hp : 0 < l.length
    · have := NZ_low h hn hp
      have := Q_pos (l.length - 1)
      omega
    · exact List.eq_nil_of_length_eq_zero (by omega)
  · rintro rfl; rfl
/-- A number written over zero bits. -/
theorem or_shift (x y s : Nat) (hx : x < 2 ^ s) : x ||| y * 2 ^ s = x + y * 2 ^ s := by
  rw [Nat.or_comm, Nat.mul_comm y, ← Nat.two_pow_add_eq_or_of_lt hx]
  omega
end Go.Proofs.Ytljenpakncmlkaa.Mth
