/- The two checks of a history, told as one number. -/
import Derived.Test.YtljenpakncmlkaaLRows
import Derived.Test.YtljenpakncmlkaaPAllx2
import Derived.Test.YtljenpakncmlkaaPAllx6
namespace Go.Proofs.Ytljenpakncmlkaa.Hist
open Go.RowKit Go.Proofs.YtljenpakncmlkaaW.PrintWords Go.Proofs.YtljenpakncmlkaaW.PrintMore Go.Proofs.Ytljenpakncmlkaa.PAll Go.Proofs.Ytljenpakncmlkaa.LRows

def badRow (r : S36) : Prop := ¬ (0 ≤ r.f0 ∧ r.f0 ≤ 1048576 ∧ 1 ≤ r.f1 ∧ r.f1 ≤ 3 ∧ 0 ≤ r.f4 ∧ r.f4 ≤ 1125899906842624 ∧ 0 ≤ r.f5 ∧ r.f5 ≤ 1125899906842624) ∨ (r.f5 ≠ 0 ∧ r.f1 ≠ 3)
instance (r : S36) : Decidable (badRow r) := by unfold badRow; infer_instance
def badParty (n : Int) (r : S36) : Prop := r.f2 < 0 ∨ n ≤ r.f2 ∨ r.f3 < 0 ∨ n ≤ r.f3 ∨ r.f2 = r.f3
instance (n : Int) (r : S36) : Decidable (badParty n r) := by unfold badParty; infer_instance
/-- A row's fault, or 0. -/
def rowE (n prev : Int) (r : S36) : Int := if badRow r then 1 else if badParty n r then 14 else if r.f0 < prev then 15 else 0
def chkL (n : Int) : Int → List S36 → Int
  | _, [] => 0
  | prev, r :: rs => if rowE n prev r = 0 then chkL n r.f0 rs else rowE n prev r
def chkE (n : Int) (l : List S36) : Int := if 256 < (l.length : Int) then 2 else chkL n 0 l

theorem drop_at' (l : List S36) (i : Nat) (h : i < l.length) : l.drop i = rd_T36 l (i : Int) :: l.drop (i + 1) := by
  rw [List.drop_eq_getElem_cons h]
  congr 1
  show _ = l.getD (Int.toNat (i : Int)) z36
  rw [Int.toNat_natCast, List.getD_eq_getElem?_getD, List.getElem?_eq_getElem h]
  rfl
theorem checkRow_eq (k : Nat) (hk : 3 ≤ k) (n prev : Int) (r : S36) : history_checkRow.f k n r.f0 r.f1 r.f2 r.f3 r.f4 r.f5 prev = some (rowE n prev r) := by
  obtain ⟨k, rfl⟩ : ∃ m, k = m + 3 := ⟨k - 3, by omega⟩
  unfold history_checkRow.f rowE badRow badParty
  simp only [history_checkRow.j0, history_checkRow.j1, history_checkRow.j2]
  grind

theorem hist_loop (n : Int) (l : List S36) (hl : l.length ≤ maxLen) (d : Nat) : ∀ (k : Nat) (prev : Int) (i : Nat), l.length - i = d → i ≤ l.length → d + 4 ≤ k →
    history_Check.l0 k n prev l (l.length : Int) (i : Int) = some (chkL n prev (l.drop i)) := by
  induction d with
  | zero =>
    intro k prev i hd hi hk
    obtain ⟨k, rfl⟩ : ∃ m, k = m + 1 := ⟨k - 1, by omega⟩
    have hge : ¬ (i : Int) < (l.length : Int) := by omega
    rw [List.drop_eq_nil_of_le (by omega)]
    simp only [history_Check.l0]
    rw [if_neg hge]; rfl
  | succ d ih =>
    intro k prev i hd hi hk
    obtain ⟨k, rfl⟩ : ∃ m, k = m + 1 := ⟨k - 1, by omega⟩
    have hlt : i < l.length := by omega
    have c1 : (i : Int) < (l.length : Int) := by omega
    have c0 : (0 : Int) ≤ (i : Int) := by omega
    have ih1 := fun prev => ih k prev (i + 1) (by omega) (by omega) (by omega)
    rw [drop_at' l i hlt]
    simp only [history_Check.l0]
    rw [if_pos c1, if_pos c0, if_pos c1, checkRow_eq k (by omega)]
    simp only [Option.bind_some, next64 hlt hl, ih1, chkL]
    split <;> rfl

theorem check_eq (n : Int) (l : List S36) (k : Nat) (hk : 260 ≤ k) : history_Check.f k n l = some (chkE n l) := by
  unfold history_Check.f chkE
  by_cases h : (l.length : Int) > 256
  · rw [if_pos h, if_pos h]
  · rw [if_neg h, if_neg h]
    have h1 : l.length ≤ 256 := by omega
    have := hist_loop n l (by unfold maxLen; omega) l.length k 0 0 rfl (Nat.zero_le _) (by omega)
    rw [List.drop_zero] at this
    exact this
def prevOf (l : List S36) (i : Nat) : Int := if i = 0 then 0 else (rd_T36 l ((i - 1 : Nat) : Int)).f0
theorem day_eq (a : Int) : insolvencyref25_day.f a = some (decide (0 ≤ a ∧ a ≤ 1048576)) := by
  unfold insolvencyref25_day.f
  split
  · rename_i h
    simp only [Option.some.injEq, decide_eq_decide]
    exact ⟨fun h2 => ⟨h, h2⟩, fun h2 => h2.2⟩
  · rename_i h
    rw [decide_eq_false (fun h2 => h h2.1)]
theorem cents_eq (a : Int) : insolvencyref25_cents.f a = some (decide (0 ≤ a ∧ a ≤ 1125899906842624)) := by
  unfold insolvencyref25_cents.f
  split
  · rename_i h
    simp only [Option.some.injEq, decide_eq_decide]
    exact ⟨fun h2 => ⟨h, h2⟩, fun h2 => h2.2⟩
  · rename_i h
    rw [decide_eq_false (fun h2 => h h2.1)]
theorem ref_loop (n : Int) (l : List S36) (hl : l.length ≤ maxLen) (d : Nat) : ∀ (k : Nat) (i : Nat), l.length - i = d → i ≤ l.length → 3 * d < k →
    insolvencyref25_Check.l0 k n l (i : Int) = some (chkL n (prevOf l i) (l.drop i)) := by
  induction d with
  | zero =>
    intro k i hd hi hk
    obtain ⟨k, rfl⟩ : ∃ m, k = m + 1 := ⟨k - 1, by omega⟩
    have hge : ¬ (i : Int) < (l.length : Int) := by omega
    rw [List.drop_eq_nil_of_le (by omega)]
    simp only [insolvencyref25_Check.l0]
    rw [if_neg hge]; rfl
  | succ d ih =>
    intro k i hd hi hk
    obtain ⟨k, rfl⟩ : ∃ m, k = m + 3 := ⟨k - 3, by omega⟩
    have hlt : i < l.length := by omega
    have c1 : (i : Int) < (l.length : Int) := by omega
    have c0 : (0 : Int) ≤ (i : Int) := by omega
    have ih1 := ih k (i + 1) (by omega) (by omega) (by omega)
    rw [drop_at' l i hlt]
    simp only [insolvencyref25_Check.l0]
    rw [if_pos c1, if_pos c0]
    simp only [insolvencyref25_Check.j1, insolvencyref25_Check.j2, next64 hlt hl, ih1, day_eq, cents_eq, Option.bind_some, decide_eq_true_eq, chkL]
    have hp : prevOf l (i + 1) = (rd_T36 l (i : Int)).f0 := by simp [prevOf]
    rw [hp]
    generalize chkL n (rd_T36 l (i : Int)).f0 (l.drop (i + 1)) = Z
    by_cases hi0 : i = 0
    · subst hi0
      have h0 : prevOf l 0 = 0 := rfl
      rw [h0]
      generalize rd_T36 l ((0 : Nat) : Int) = r
      have g0 : ¬ (((0 : Nat) : Int) > 0) := by omega
      simp only [if_neg g0]
      unfold rowE badRow badParty
      clear ih ih1 c0 c1 hlt hd hi hk hl hp h0 g0
      grind (splits := 40)
    · have h1 : wrap64 ((i : Int) - 1) = ((i - 1 : Nat) : Int) := by
        unfold maxLen at hl
        rw [w64 (by omega) (by omega)]; omega
      have h2 : (0 : Int) ≤ ((i - 1 : Nat) : Int) := by omega
      have h3 : ((i - 1 : Nat) : Int) < (l.length : Int) := by omega
      have h4 : (i : Int) > 0 := by omega
      have h5 : prevOf l i = (rd_T36 l ((i - 1 : Nat) : Int)).f0 := by unfold prevOf; rw [if_neg hi0]
      rw [h1, h5]
      simp only [if_pos h2, if_pos h3, if_pos h4]
      generalize (rd_T36 l ((i - 1 : Nat) : Int)).f0 = pv
      generalize rd_T36 l (i : Int) = r
      unfold rowE badRow badParty
      clear ih ih1 c0 c1 hlt hd hi hk hl hp h1 h2 h3 h4 h5
      grind (splits := 40)
theorem refcheck_eq (n : Int) (l : List S36) (k : Nat) (hk : 800 ≤ k) : insolvencyref25_Check.f k n l = some (chkE n l) := by
  unfold insolvencyref25_Check.f chkE
  by_cases h : (l.length : Int) > 256
  · rw [if_pos h, if_pos h]
  · rw [if_neg h, if_neg h]
    have h1 : l.length ≤ 256 := by omega
    have := ref_loop n l (by unfold maxLen; omega) l.length k 0 rfl (Nat.zero_le _) (by omega)
    rw [List.drop_zero] at this
    exact this
/-- A history without a fault: every row is good. -/
def goodRow (n : Int) (r : S36) : Prop := ¬ badRow r ∧ ¬ badParty n r
theorem chkL_good (n : Int) : ∀ (l : List S36) (prev : Int), chkL n prev l = 0 → ∀ r ∈ l, goodRow n r := by
  intro l
  induction l with
  | nil => intro _ _ r hr; cases hr
  | cons a l ih =>
    intro prev h r hr
    unfold chkL at h
    by_cases h0 : rowE n prev a = 0
    · rw [if_pos h0] at h
      rcases List.mem_cons.mp hr with rfl | hr
      · unfold rowE at h0
        unfold goodRow
        by_cases b1 : badRow r
        · rw [if_pos b1] at h0; omega
        · rw [if_neg b1] at h0
          by_cases b2 : badParty n r
          · rw [if_pos b2] at h0; omega
          · exact ⟨b1, b2⟩
      · exact ih _ h r hr
    · rw [if_neg h0] at h
      exact absurd h h0
theorem chkE_good (n : Int) (l : List S36) (h : chkE n l = 0) : l.length ≤ 256 ∧ ∀ r ∈ l, goodRow n r := by
  unfold chkE at h
  split at h
  · omega
  · exact ⟨by omega, chkL_good n l 0 h⟩
end Go.Proofs.Ytljenpakncmlkaa.Hist
