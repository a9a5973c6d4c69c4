/- Both answers are one. -/
import Derived.Test.YtljenpakncmlkaaTraceFold
import Derived.Test.YtljenpakncmlkaaPAllx8
import Derived.Test.YtljenpakncmlkaaPAllx3
import Derived.Test.YtljenpakncmlkaaTraceCut
import Derived.Test.YtljenpakncmlkaaPAllx9
namespace Go.Proofs.Ytljenpakncmlkaa.TrEq
open Go.RowKit Go.Proofs.YtljenpakncmlkaaW.PrintWords Go.Proofs.YtljenpakncmlkaaW.PrintMore Go.Proofs.Ytljenpakncmlkaa.PAll Go.Proofs.Ytljenpakncmlkaa.LRows Go.Proofs.Ytljenpakncmlkaa.Tr Go.Proofs.Ytljenpakncmlkaa.Hist

/-- The opening is in range. -/
def opening (l : List Int) (i : Nat) : Bool := (l.drop i).all (fun x => decide (inRange x))
theorem drop_rd (l : List Int) (i : Nat) (h : i < l.length) : l.drop i = rd l (i : Int) :: l.drop (i + 1) := by
  rw [List.drop_eq_getElem_cons h, rd_nat, List.getD_eq_getElem?_getD, List.getElem?_eq_getElem h]
  rfl
/-- What the definition's check answers behind the history's. -/
def tailE (l0 : List S36) (a2 : Int) : Int := if a2 < 0 ∨ (l0.length : Int) ≤ a2 then 1 else if (rd_T36 l0 a2).f1 ≠ 1 then 13 else 0
theorem ct_tail (k : Nat) (l0 : List S36) (a2 : Int) : (if a2 < 0 then insolvencyref25_CheckTrace.j1 (k + 1) l0 a2 true else insolvencyref25_CheckTrace.j1 (k + 1) l0 a2 (decide (a2 ≥ (l0.length : Int)))) = some (tailE l0 a2) := by
  unfold tailE
  by_cases h : a2 < 0
  · rw [if_pos h, insolvencyref25_CheckTrace.j1, if_pos rfl, if_pos (Or.inl h)]
  · rw [if_neg h, insolvencyref25_CheckTrace.j1]
    by_cases h2 : (l0.length : Int) ≤ a2
    · rw [if_pos (by simpa using h2), if_pos (Or.inr h2)]
    · rw [if_neg (by simpa using h2), if_pos (show 0 ≤ a2 by omega), if_pos (show a2 < (l0.length : Int) by omega), if_neg (show ¬ (a2 < 0 ∨ (l0.length : Int) ≤ a2) by omega)]
      by_cases h5 : (rd_T36 l0 a2).f1 = 1
      · rw [if_pos h5, if_neg (by intro h6; exact h6 h5)]
      · rw [if_neg h5, if_pos h5]
theorem ct_loop (l0 : List S36) (l1 : List Int) (hl : l1.length ≤ maxLen) (a2 : Int) (d : Nat) : ∀ (k i : Nat), l1.length - i = d → i ≤ l1.length →
    insolvencyref25_CheckTrace.l0 (k + d + 2) l0 l1 a2 (i : Int) = some (if opening l1 i then tailE l0 a2 else 1) := by
  induction d with
  | zero =>
    intro k i hd hi
    have e : opening l1 i = true := by unfold opening; rw [List.drop_eq_nil_of_le (by omega)]; rfl
    rw [show k + 0 + 2 = (k + 1) + 1 by omega, insolvencyref25_CheckTrace.l0, if_neg (by omega), ct_tail, e, if_pos rfl]
  | succ d ih =>
    intro k i hd hi
    have hlt : i < l1.length := by omega
    have ih1 := ih k (i + 1) (by omega) (by omega)
    rw [show k + (d + 1) + 2 = (k + d + 2) + 1 by omega, insolvencyref25_CheckTrace.l0, if_pos (by omega), if_pos (by omega), next64 hlt hl, ih1]
    have e : opening l1 i = (decide (inRange (rd l1 (i : Int))) && opening l1 (i + 1)) := by unfold opening; rw [drop_rd l1 i hlt, List.all_cons]
    rw [e]
    by_cases c1 : rd l1 (i : Int) > 1125899906842624
    · rw [if_pos c1, decide_eq_false (by unfold inRange; omega)]; rfl
    · rw [if_neg c1]
      by_cases c2 : rd l1 (i : Int) < -1125899906842624
      · rw [if_pos c2, decide_eq_false (by unfold inRange; omega)]; rfl
      · rw [if_neg c2, decide_eq_true (by unfold inRange; omega)]; rfl
end Go.Proofs.Ytljenpakncmlkaa.TrEq
/- The definition's answer is the program's. -/
namespace Go.Proofs.Ytljenpakncmlkaa.TrEq
open Go.RowKit Go.Proofs.YtljenpakncmlkaaW.PrintWords Go.Proofs.YtljenpakncmlkaaW.PrintMore Go.Proofs.Ytljenpakncmlkaa.PAll Go.Proofs.Ytljenpakncmlkaa.LRows Go.Proofs.Ytljenpakncmlkaa.Tr Go.Proofs.Ytljenpakncmlkaa.Hist

theorem opening_iff (l : List Int) : opening l 0 = true ↔ ∀ x ∈ l, inRange x := by
  unfold opening; rw [List.drop_zero, List.all_eq_true]; simp
theorem rep_len (n : Nat) : (List.replicate n (0 : Int)).length = n := List.length_replicate
theorem inv_zero (l1 : List Int) (a2 : Int) (h : ∀ x ∈ l1, inRange x) : Inv l1.length a2 0 l1 (List.replicate l1.length 0) 0 := by
  have hz : ∀ p : Nat, p < l1.length → rd (List.replicate l1.length (0 : Int)) (p : Int) = 0 := by
    intro p hp
    rw [rd_nat, List.getD_eq_getElem?_getD, List.getElem?_replicate_of_lt hp]; rfl
  refine ⟨rfl, rep_len _, fun p hp => ?_, fun p hp => ?_, ⟨by omega, by omega⟩, fun _ => ⟨rfl, hz⟩⟩
  · have h1 := h _ (rd_mem l1 p hp)
    unfold inRange at h1
    omega
  · rw [hz p hp]
    exact ⟨Int.le_refl _, mx0 _⟩
/-- One answer. -/
theorem ref_ans (k : Nat) (l0 : List S36) (l1 : List Int) (a2 : Int) (h1 : l1.length ≤ 1000000) (h0 : l0.length ≤ 1000000) (hk : l0.length * (l1.length + 4) + l1.length + 1000 ≤ k) :
    insolvencyref25_Trace.f k l0 l1 a2 = ansF l0 l1 a2 (chkE l1.length l0) ∧ (ansF l0 l1 a2 (chkE l1.length l0)).isSome = true := by
  have hct := ct_loop l0 l1 (by unfold maxLen; omega) a2 l1.length (k - l1.length - 2) 0 rfl (Nat.zero_le _)
  rw [show k - l1.length - 2 + l1.length + 2 = k by omega] at hct
  unfold insolvencyref25_Trace.f insolvencyref25_CheckTrace.f ansF
  rw [refcheck_eq _ _ k (by omega), Option.bind_some, if_neg (show ¬ ¬ (l1.length ≤ 1000000 ∧ l0.length ≤ 1000000) from fun h => h ⟨h1, h0⟩)]
  by_cases e0 : chkE l1.length l0 = 0
  · obtain ⟨hl, hg⟩ := chkE_good _ _ e0
    rw [e0, if_pos rfl, if_neg (show ¬ ((0 : Int) ≠ 0) from fun h => h rfl)]
    have hct' : insolvencyref25_CheckTrace.l0 k l0 l1 a2 0 = _ := hct
    rw [hct', Option.bind_some]
    by_cases ho : ∀ x ∈ l1, inRange x
    · rw [(opening_iff l1).mpr ho, if_pos rfl, if_neg (show ¬ ¬ (∀ x ∈ l1, inRange x) from fun h => h ho)]
      unfold tailE
      by_cases ha : a2 < 0 ∨ (l0.length : Int) ≤ a2
      · rw [if_pos ha, if_pos ha, if_neg (by decide)]; exact ⟨rfl, rfl⟩
      · rw [if_neg ha, if_neg ha]
        by_cases hf : (rd_T36 l0 a2).f1 ≠ 1
        · rw [if_pos hf, if_pos hf, if_neg (by decide)]; exact ⟨rfl, rfl⟩
        · rw [if_neg hf, if_neg hf, if_pos rfl]
          have hrow : ∀ r ∈ l0, rowOk l1.length r := by
            intro r hr
            obtain ⟨hk, _, g2, g2', g3, g3', g5⟩ := goodRow_of (hg r hr)
            exact ⟨⟨g2, g2', g3, g3', g5⟩, hk⟩
          rw [if_pos hrow]
          simp only [Option.bind_some, List.nil_append, List.length_nil]
          rw [if_pos (by omega), if_pos (by omega), if_pos (by omega), Int.toNat_natCast]
          have hall := ref_all l1.length h1 l0 hl a2 hg (Decidable.not_not.mp hf) l0.length k 0 l1 (List.replicate l1.length 0) 0 rfl (Nat.zero_le _) (inv_zero l1 a2 ho) (by omega)
          refine ⟨?_, rfl⟩
          unfold foldF
          rw [List.range_eq_range']
          exact hall
    · have hf : opening l1 0 = false := by
        cases h : opening l1 0
        · rfl
        · exact absurd ((opening_iff l1).mp h) ho
      rw [hf, if_neg (show ¬ (false = true) by decide), if_neg (show ¬ ((1 : Int) = 0) by decide), if_pos ho]
      exact ⟨rfl, rfl⟩
  · rw [if_neg e0, Option.bind_some, if_neg e0, if_pos e0]
    exact ⟨rfl, rfl⟩
/-- The same for the program's own. -/
theorem trace_ans (k : Nat) (l0 : List S36) (l1 : List Int) (a2 : Int) (hk : 260 ≤ k) : undervalue_Trace.f k l0 l1 a2 = ansF l0 l1 a2 (chkE l1.length l0) := by
  unfold undervalue_Trace.f
  rw [check_eq _ _ k hk, Option.bind_some]
end Go.Proofs.Ytljenpakncmlkaa.TrEq
/- same and awake answer true. -/
namespace Go.Proofs.Ytljenpakncmlkaa.TrEq
open Go.RowKit Go.Proofs.YtljenpakncmlkaaW.PrintWords Go.Proofs.YtljenpakncmlkaaW.PrintMore Go.Proofs.Ytljenpakncmlkaa.PAll Go.Proofs.Ytljenpakncmlkaa.LRows Go.Proofs.Ytljenpakncmlkaa.Tr Go.Proofs.Ytljenpakncmlkaa.Hist

theorem same_loop (l : List Int) (hl : l.length ≤ maxLen) (d : Nat) : ∀ (k i : Nat), l.length - i = d → i ≤ l.length → insolvencylaw27_same.l0 (k + d + 1) l l (i : Int) = some true := by
  induction d with
  | zero =>
    intro k i hd hi
    rw [insolvencylaw27_same.l0, if_neg (by omega)]
  | succ d ih =>
    intro k i hd hi
    have hlt : i < l.length := by omega
    rw [show k + (d + 1) + 1 = (k + d + 1) + 1 by omega, insolvencylaw27_same.l0, if_pos (by omega), if_pos (by omega), if_pos (by omega), if_pos rfl, next64 hlt hl]
    exact ih k (i + 1) (by omega) (by omega)
theorem same_of (k : Nat) (l0 : List S36) (l1 : List Int) (a2 : Int) (r : List Int × Int × Int) (h1 : undervalue_Trace.f (k + r.1.length + 2) l0 l1 a2 = some r) (h2 : insolvencyref25_Trace.f (k + r.1.length + 2) l0 l1 a2 = some r) (hl : r.1.length ≤ maxLen) :
    insolvencylaw27_same.f (k + r.1.length + 2) l0 l1 a2 = some true := by
  unfold insolvencylaw27_same.f
  rw [h1, h2, Option.bind_some, Option.bind_some, if_pos rfl, if_pos rfl, show k + r.1.length + 2 = (k + r.1.length + 1) + 1 by omega, insolvencylaw27_same.j0, if_neg (by simp)]
  exact same_loop r.1 hl r.1.length k 0 rfl (Nat.zero_le _)
set_option maxRecDepth 100000 in
theorem awake_true (k : Nat) (hk : 260 ≤ k) : insolvencylaw27_awake.f k = some true := by
  unfold insolvencylaw27_awake.f
  rw [trace_ans k _ _ _ hk]
  kernel_rfl
end Go.Proofs.Ytljenpakncmlkaa.TrEq
/- The traced row keeps its length; so 'same' answers true. -/
namespace Go.Proofs.Ytljenpakncmlkaa.TrEq
open Go.RowKit Go.Proofs.YtljenpakncmlkaaW.PrintWords Go.Proofs.YtljenpakncmlkaaW.PrintMore Go.Proofs.Ytljenpakncmlkaa.PAll Go.Proofs.Ytljenpakncmlkaa.LRows Go.Proofs.Ytljenpakncmlkaa.Tr Go.Proofs.Ytljenpakncmlkaa.Hist

theorem clipF_len (B T : List Int) (L : Int) (m : Nat) : (clipF B T L m).1.length = T.length := by
  induction m with
  | zero => rfl
  | succ m ih =>
    rw [clipF_succ]
    unfold clipStep
    split
    · rw [List.length_set]; exact ih
    · exact ih
theorem spF_len (f1 f2 f3 f4 : Int) (B T : List Int) (L : Int) : (spF f1 f2 f3 f4 B T L).1.length = T.length := by
  unfold spF
  split <;> simp
theorem rowF_len (n : Nat) (a i f1 f2 f3 f4 : Int) (B T : List Int) (L : Int) : (rowF n a i f1 f2 f3 f4 B T L).2.1.length = T.length := by
  unfold rowF
  simp only
  split <;> split <;> split <;> simp [clipF_len, spF_len]
theorem foldF_len (n : Nat) (a : Int) (l : List S36) (l1 : List Int) (m : Nat) : (foldF n a l l1 m).2.1.length = n := by
  induction m with
  | zero => exact List.length_replicate
  | succ m ih => rw [foldF_succ]; unfold stepF; rw [rowF_len]; exact ih
theorem ansF_len (l0 : List S36) (l1 : List Int) (a e : Int) (r : List Int × Int × Int) (h : ansF l0 l1 a e = some r) : r.1.length ≤ 1000000 := by
  unfold ansF at h
  split at h
  · cases h
  · rename_i hs
    split at h
    · obtain rfl := Option.some.inj h; simp
    · split at h
      · obtain rfl := Option.some.inj h; simp
      · split at h
        · obtain rfl := Option.some.inj h; simp
        · split at h
          · obtain rfl := Option.some.inj h; simp
          · split at h
            · obtain rfl := Option.some.inj h
              simp only [foldF_len]
              exact (Decidable.not_not.mp hs).1
            · cases h
/-- 'same' answers true from some k on. -/
theorem same_true (l0 : List S36) (l1 : List Int) (a2 : Int) (h1 : l1.length ≤ 1000000) (h0 : l0.length ≤ 1000000) : ∃ K, ∀ k, K ≤ k → insolvencylaw27_same.f k l0 l1 a2 = some true := by
  obtain ⟨_, hs⟩ := ref_ans (l0.length * (l1.length + 4) + l1.length + 1000) l0 l1 a2 h1 h0 (Nat.le_refl _)
  obtain ⟨r, hr⟩ := Option.isSome_iff_exists.mp hs
  have hl := ansF_len l0 l1 a2 _ r hr
  refine ⟨l0.length * (l1.length + 4) + l1.length + 1000 + r.1.length + 2, fun k hk => ?_⟩
  obtain ⟨m, rfl⟩ : ∃ m, k = m + r.1.length + 2 := ⟨k - r.1.length - 2, by omega⟩
  refine same_of m l0 l1 a2 r ?_ ?_ (by unfold maxLen; omega)
  · rw [trace_ans _ _ _ _ (by omega), hr]
  · rw [(ref_ans _ l0 l1 a2 h1 h0 (by omega)).1, hr]
end Go.Proofs.Ytljenpakncmlkaa.TrEq
/- payment always answers. -/
namespace Go.Proofs.Ytljenpakncmlkaa.TrEq
open Go.RowKit Go.Proofs.YtljenpakncmlkaaW.PrintWords Go.Proofs.YtljenpakncmlkaaW.PrintMore Go.Proofs.Ytljenpakncmlkaa.PAll Go.Proofs.Ytljenpakncmlkaa.LRows

theorem pay_loop (l : List S36) (hl : l.length ≤ 1000) (x : Int) (hx : 0 ≤ x ∧ x < 256) (d : Nat) : ∀ (k i : Nat), l.length - i = d → i ≤ l.length → ∃ r, insolvencylaw27_payment.l0 (k + d + 1) l x (i : Int) = some r := by
  induction d with
  | zero =>
    intro k i hd hi
    exact ⟨0, by rw [insolvencylaw27_payment.l0, if_neg (by omega)]⟩
  | succ d ih =>
    intro k i hd hi
    have hlt : i < l.length := by omega
    have e1 : wrap64 x = x := wI64 x ⟨by omega, by omega⟩
    have e2 : wrap64 (x + (i : Int)) = x + (i : Int) := wI64 _ ⟨by omega, by omega⟩
    have e3 : Int.tmod (x + (i : Int)) (l.length : Int) = (x + (i : Int)) % (l.length : Int) := Int.tmod_eq_emod_of_nonneg (by omega)
    have e4 : 0 ≤ (x + (i : Int)) % (l.length : Int) := Int.emod_nonneg _ (by omega)
    have e5 : (x + (i : Int)) % (l.length : Int) < (l.length : Int) := Int.emod_lt_of_pos _ (by omega)
    rw [show k + (d + 1) + 1 = (k + d + 1) + 1 by omega, insolvencylaw27_payment.l0, if_pos (by omega), if_neg (by omega), e1, e2, e3, if_pos e4, if_pos e5, next64 hlt (by unfold maxLen; omega)]
    split
    · exact ⟨_, rfl⟩
    · exact ih k (i + 1) (by omega) (by omega)
end Go.Proofs.Ytljenpakncmlkaa.TrEq
