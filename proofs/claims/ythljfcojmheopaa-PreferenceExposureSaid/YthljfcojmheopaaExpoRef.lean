/- The definition's exposure is the same fold. -/
import Derived.Test.YthljfcojmheopaaExpo
import Derived.Test.YthljfcojmheopaaPAllx3
namespace Go.Proofs.Ythljfcojmheopaa.Expo
open Go.RowKit Go.Proofs.YthljfcojmheopaaW.PrintWords Go.Proofs.YthljfcojmheopaaW.PrintMore Go.Proofs.Ythljfcojmheopaa.PAll Go.Proofs.Ythljfcojmheopaa.Types Go.Proofs.Ythljfcojmheopaa.LRows

theorem mx_comm0 (a : Int) : mx 0 a = mx a 0 := by unfold mx; split <;> split <;> omega

theorem ref_loop (x1 x2 x3 x4 : Int) (hne : x1 ≠ x2) (l : List S30) (hl : l.length ≤ maxLen) (d : Nat) : ∀ (k : Nat) (acc : Int) (i : Nat), l.length - i = d → i ≤ l.length → 3 * d < k →
    insolvencyref25_Exposure.l0 k l x1 x2 x3 x4 acc (i : Int) = some ((l.drop i).foldl (step x1 x2 x3 x4) acc) := by
  induction d with
  | zero =>
    intro k acc i hd hi hk
    obtain ⟨k, rfl⟩ : ∃ m, k = m + 1 := ⟨k - 1, by omega⟩
    have hge : ¬ (i : Int) < (l.length : Int) := by omega
    rw [List.drop_eq_nil_of_le (by omega)]
    simp only [insolvencyref25_Exposure.l0]
    rw [if_neg hge]; rfl
  | succ d ih =>
    intro k acc i hd hi hk
    obtain ⟨k, rfl⟩ : ∃ m, k = m + 3 := ⟨k - 3, by omega⟩
    have hlt : i < l.length := by omega
    have c1 : (i : Int) < (l.length : Int) := by omega
    have c0 : (0 : Int) ≤ (i : Int) := by omega
    have q1 : l.length - (i + 1) = d := by omega
    have q2 : i + 1 ≤ l.length := by omega
    have q3 : 3 * d < k := by omega
    have q4 : 3 * d < k + 1 := by omega
    have ih1 := fun acc => ih k acc (i + 1) q1 q2 q3
    have ih2 := fun acc => ih (k + 1) acc (i + 1) q1 q2 q4
    rw [drop_at l i hlt, List.foldl_cons]
    simp only [insolvencyref25_Exposure.l0]
    rw [if_pos c1, if_pos c0]
    simp only [insolvencyref25_Exposure.j1, insolvencyref25_Exposure.j2, next64 hlt hl, ih1, ih2, mx_comm0]
    unfold step
    generalize rd_T30 l (i : Int) = r
    clear ih ih1 ih2
    clear c0 c1 q1 q2 q3 q4 hlt hd hi hk hl
    grind
/-- A debtor that is the creditor: every row is passed by. -/
theorem ref_same (x1 x3 x4 : Int) (l : List S30) (hl : l.length ≤ maxLen) (d : Nat) : ∀ (k : Nat) (acc : Int) (i : Nat), l.length - i = d → i ≤ l.length → 3 * d < k →
    insolvencyref25_Exposure.l0 k l x1 x1 x3 x4 acc (i : Int) = some acc := by
  induction d with
  | zero =>
    intro k acc i hd hi hk
    obtain ⟨k, rfl⟩ : ∃ m, k = m + 1 := ⟨k - 1, by omega⟩
    have hge : ¬ (i : Int) < (l.length : Int) := by omega
    simp only [insolvencyref25_Exposure.l0]
    rw [if_neg hge]
  | succ d ih =>
    intro k acc i hd hi hk
    obtain ⟨k, rfl⟩ : ∃ m, k = m + 3 := ⟨k - 3, by omega⟩
    have hlt : i < l.length := by omega
    have c1 : (i : Int) < (l.length : Int) := by omega
    have c0 : (0 : Int) ≤ (i : Int) := by omega
    have ih2 := ih (k + 1) acc (i + 1) (by omega) (by omega) (by omega)
    simp only [insolvencyref25_Exposure.l0]
    rw [if_pos c1, if_pos c0]
    simp only [insolvencyref25_Exposure.j1, next64 hlt hl, ih2]
    simp

theorem ref_expo (x1 x2 x3 x4 : Int) (l : List S30) (hl : l.length ≤ maxLen) :
    Ev (fun k => insolvencyref25_Exposure.f k l x1 x2 x3 x4) (if x1 = x2 then 0 else l.foldl (step x1 x2 x3 x4) 0) := by
  refine Ev.of (fun k => insolvencyref25_Exposure.mono _ _ _ _ _ k) (k := 3 * l.length + 1) ?_
  unfold insolvencyref25_Exposure.f
  by_cases h : x1 = x2
  · rw [if_pos h]; subst h
    exact ref_same x1 x3 x4 l hl l.length _ 0 0 (by omega) (by omega) (by omega)
  · rw [if_neg h]
    have := ref_loop x1 x2 x3 x4 h l hl l.length (3 * l.length + 1) 0 0 (by omega) (by omega) (by omega)
    simpa using this
end Go.Proofs.Ythljfcojmheopaa.Expo
