/- The exposure of a creditor: the program's loop and the definition's loop are the same fold over the rows. -/
import Derived.Test.YthljfcojmheopaaLRows
import Derived.Test.YthljfcojmheopaaPAllx1
namespace Go.Proofs.Ythljfcojmheopaa.Expo
open Go.RowKit Go.Proofs.YthljfcojmheopaaW.PrintWords Go.Proofs.YthljfcojmheopaaW.PrintMore Go.Proofs.Ythljfcojmheopaa.PAll Go.Proofs.Ythljfcojmheopaa.Types Go.Proofs.Ythljfcojmheopaa.LRows

/-- What one row makes of the exposure. -/
def expStep (x1 x2 x3 x4 acc : Int) (r : S30) : Int :=
  if r.f0 < x3 ∨ r.f0 > x4 then acc
  else if r.f1 = 1 ∧ r.f2 = x1 ∧ r.f3 = x2 then wrap64 (acc + r.f4)
  else if (r.f1 = 1 ∨ r.f1 = 2) ∧ r.f2 = x2 ∧ r.f3 = x1 then mx (wrap64 (acc - r.f4)) 0
  else acc

theorem drop_at (l : List S30) (i : Nat) (h : i < l.length) : l.drop i = rd_T30 l (i : Int) :: l.drop (i + 1) := by
  rw [List.drop_eq_getElem_cons h]
  unfold rd_T30
  rw [Int.toNat_natCast, List.getD_eq_getElem?_getD, List.getElem?_eq_getElem h]
  rfl

theorem expo_loop (x1 x2 x3 x4 : Int) (l : List S30) (hl : l.length ≤ maxLen) (d : Nat) : ∀ (k : Nat) (acc : Int) (i : Nat), l.length - i = d → i ≤ l.length → 3 * d < k →
    preference_Exposure.l0 k x1 x2 x3 x4 acc l (l.length : Int) (i : Int) = some ((l.drop i).foldl (expStep x1 x2 x3 x4) acc) := by
  induction d with
  | zero =>
    intro k acc i hd hi hk
    obtain ⟨k, rfl⟩ : ∃ m, k = m + 1 := ⟨k - 1, by omega⟩
    have hge : ¬ (i : Int) < (l.length : Int) := by omega
    rw [List.drop_eq_nil_of_le (by omega)]
    simp only [preference_Exposure.l0]
    rw [if_neg hge]; rfl
  | succ d ih =>
    intro k acc i hd hi hk
    obtain ⟨k, rfl⟩ : ∃ m, k = m + 3 := ⟨k - 3, by omega⟩
    have hlt : i < l.length := by omega
    have c1 : (i : Int) < (l.length : Int) := by omega
    have c0 : (0 : Int) ≤ (i : Int) := by omega
    have q1 : l.length - (i + 1) = d := by omega
    have q2 : i + 1 ≤ l.length := by omega
    have q3 : 3 * d < k := by omega
    have q4 : 3 * d < k + 1 := by omega
    have ih1 := fun acc => ih k acc (i + 1) q1 q2 q3
    have ih2 := fun acc => ih (k + 1) acc (i + 1) q1 q2 q4
    rw [drop_at l i hlt, List.foldl_cons]
    simp only [preference_Exposure.l0]
    rw [if_pos c1, if_pos c0, if_pos c1]
    simp only [preference_Exposure.j1, preference_Exposure.j2, next64 hlt hl, ih1, ih2]
    unfold expStep
    generalize rd_T30 l (i : Int) = r
    clear ih ih1 ih2
    clear c0 c1 q1 q2 q3 q4 hlt hd hi hk hl
    grind

theorem expo (x1 x2 x3 x4 : Int) (l : List S30) (hl : l.length ≤ maxLen) :
    Ev (fun k => preference_Exposure.f k l x1 x2 x3 x4) (if x1 = x2 then 0 else l.foldl (expStep x1 x2 x3 x4) 0) := by
  refine Ev.of (fun k => preference_Exposure.mono _ _ _ _ _ k) (k := 3 * l.length + 1) ?_
  unfold preference_Exposure.f
  by_cases h : x1 = x2
  · rw [if_pos h, if_pos h]
  · rw [if_neg h, if_neg h]
    have := expo_loop x1 x2 x3 x4 l hl l.length (3 * l.length + 1) 0 0 (by omega) (by omega) (by omega)
    simpa using this
end Go.Proofs.Ythljfcojmheopaa.Expo
