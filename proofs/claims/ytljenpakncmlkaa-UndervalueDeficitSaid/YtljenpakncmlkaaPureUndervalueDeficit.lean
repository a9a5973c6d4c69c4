/- The law UndervalueDeficit, over numbers alone: for all arguments in their kinds' ranges the printed law answers true. -/
import Derived.Test.YtljenpakncmlkaaRNe
import Derived.Test.YtljenpakncmlkaaTypes
import Derived.Test.YtljenpakncmlkaaTypesUndervalueDeficit
namespace Go.Proofs.Ytljenpakncmlkaa.Pure
open Go.RowKit Go.Proofs.YtljenpakncmlkaaW.PrintWords Go.Proofs.YtljenpakncmlkaaW.PrintMore Go.Proofs.Ytljenpakncmlkaa.PAll Go.Proofs.Ytljenpakncmlkaa.Types Go.Proofs.Ytljenpakncmlkaa.RN

set_option maxRecDepth 100000 in
theorem df_awake : Ev (fun k => insolvencylaw27_awake.f k) true := by
  refine Ev.of (fun k => insolvencylaw27_awake.mono k) (k := 20) ?_
  kernel_rfl
/-- The deficit. -/
def defV (f1 f4 f5 : Int) : Int := if f1 = 3 then (if 10 * f4 < 9 * f5 then wrap64 (f5 - f4) else 0) else 0
theorem ref_def (f0 f1 f2 f3 f4 f5 : Int) (h4 : I64 f4) (h5 : I64 f5) : Ev (fun k => insolvencyref25_Deficit.f k f0 f1 f2 f3 f4 f5) (defV f1 f4 f5) := by
  unfold insolvencyref25_Deficit.f defV
  by_cases c : f1 = 3
  · simp only [c, if_true]
    obtain ⟨ten, a1, a2⟩ := int_ev 10 ⟨by decide, by decide⟩
    obtain ⟨am, b1, b2⟩ := int_ev f4 h4
    obtain ⟨nine, c1, c2⟩ := int_ev 9 ⟨by decide, by decide⟩
    obtain ⟨wo, d1, d2⟩ := int_ev f5 h5
    obtain ⟨x, x1, x2⟩ := Times_ev ten am 8 (by decide) 10 f4 a2 b2
    obtain ⟨y, y1, y2⟩ := Times_ev nine wo 8 (by decide) 9 f5 c2 d2
    have hl := Less_ev x y (2 * 8 + 6) (by decide) _ _ x2 y2
    refine Ev.bind a1 (Ev.bind b1 (Ev.bind x1 (Ev.bind c1 (Ev.bind d1 (Ev.bind y1 (Ev.bind hl ?_))))))
    by_cases h : 10 * f4 < 9 * f5
    · simp only [h, decide_true, if_true]
      exact Ev.now _
    · simp only [h, decide_false, Bool.false_eq_true, if_false]
      exact Ev.now _
  · simp only [c, if_false]
    exact Ev.now _
theorem and_mask (x : Int) (h0 : 0 ≤ x) (h1 : x < 18446744073709551616) : Go.bits .and .u64 x 4294967295 = x % 4294967296 := by
  rw [u64_and x 4294967295 h0 h1 (by decide) (by decide)]
  have h : x.toNat &&& (4294967295 : Int).toNat = x.toNat % 4294967296 := Nat.and_two_pow_sub_one_eq_mod x.toNat 32
  rw [h]
  omega
theorem mul_small (a b : Int) (h0 : 0 ≤ a) (h1 : a < 18446744073709551616) (hb : b = 10 ∨ b = 9) : bits_Mul64.f a b = some (a * b / 18446744073709551616, a * b % 18446744073709551616) := by
  have ea := and_mask a h0 h1
  have eb : Go.bits .and .u64 b 4294967295 = b := by rw [and_mask b (by omega) (by omega)]; omega
  have eb2 : b / 4294967296 = 0 := by omega
  unfold bits_Mul64.f
  rw [ea, eb, eb2]
  have e1 : IntKind.u64.wrap (a / 4294967296 * b) = a / 4294967296 * b := by rcases hb with rfl | rfl <;> exact u64 _ (by omega) (by omega)
  have e2 : IntKind.u64.wrap (a % 4294967296 * b) = a % 4294967296 * b := by rcases hb with rfl | rfl <;> exact u64 _ (by omega) (by omega)
  have e3 : IntKind.u64.wrap (a / 4294967296 * 0) = 0 := by rw [Int.mul_zero]; exact u64 0 (by decide) (by decide)
  have e4 : IntKind.u64.wrap (a % 4294967296 * 0) = 0 := by rw [Int.mul_zero]; exact u64 0 (by decide) (by decide)
  have e5 : IntKind.u64.wrap (a / 4294967296 * b + a % 4294967296 * b / 4294967296) = a / 4294967296 * b + a % 4294967296 * b / 4294967296 := by rcases hb with rfl | rfl <;> exact u64 _ (by omega) (by omega)
  rw [e1, e2, e3, e4, e5]
  have t0 : 0 ≤ a / 4294967296 * b + a % 4294967296 * b / 4294967296 := by rcases hb with rfl | rfl <;> omega
  have t1 : a / 4294967296 * b + a % 4294967296 * b / 4294967296 < 18446744073709551616 := by rcases hb with rfl | rfl <;> omega
  rw [and_mask _ t0 t1]
  have e6 : IntKind.u64.wrap (a * b) = a * b % 18446744073709551616 := by simp [IntKind.wrap, IntKind.bits, IntKind.signed]
  rw [e6]
  have e7 : a * b / 18446744073709551616 = (a / 4294967296 * b + a % 4294967296 * b / 4294967296) / 4294967296 := by rcases hb with rfl | rfl <;> omega
  rw [e7]
  clear e1 e2 e3 e4 e5 e6 e7 ea eb
  generalize a / 4294967296 * b + a % 4294967296 * b / 4294967296 = t at *
  rw [u64 (0 + t / 4294967296) (by omega) (by omega), u64 (t % 4294967296 + 0) (by omega) (by omega), u64 _ (by omega) (by omega)]
  congr 2
  omega
theorem times_small (n b : Int) (h : I64 n) (hb : b = 10 ∨ b = 9) : undervalue_times.f n b = some (decide (n < 0), (n.natAbs : Int) * b / 18446744073709551616, (n.natAbs : Int) * b % 18446744073709551616) := by
  obtain ⟨h0, h1⟩ := h
  unfold undervalue_times.f
  have ew : IntKind.u64.wrap n = n % 18446744073709551616 := by simp [IntKind.wrap, IntKind.bits, IntKind.signed]
  have ew2 : IntKind.u64.wrap (-(n % 18446744073709551616)) = (-(n % 18446744073709551616)) % 18446744073709551616 := by simp [IntKind.wrap, IntKind.bits, IntKind.signed]
  rw [ew, ew2]
  split
  · rename_i hn
    have e : (-(n % 18446744073709551616)) % 18446744073709551616 = (n.natAbs : Int) := by omega
    rw [e, mul_small _ b (by omega) (by omega) hb]
    rfl
  · rename_i hn
    have e : n % 18446744073709551616 = (n.natAbs : Int) := by omega
    rw [e, mul_small _ b (by omega) (by omega) hb]
    rfl
theorem below_eq (a b : Int) (ha : I64 a) (hb : I64 b) : undervalue_below.f a 10 b 9 = some (decide (10 * a < 9 * b)) := by
  unfold undervalue_below.f
  rw [times_small a 10 ha (.inl rfl), times_small b 9 hb (.inr rfl)]
  simp only [Option.bind_some]
  obtain ⟨a0, a1⟩ := ha
  obtain ⟨b0, b1⟩ := hb
  by_cases sa : a < 0
  · rw [decide_eq_true sa]
    by_cases sb : b < 0
    · rw [decide_eq_true sb, if_neg (by decide), if_pos rfl]
      by_cases c1 : (b.natAbs : Int) * 9 / 18446744073709551616 < (a.natAbs : Int) * 10 / 18446744073709551616
      · rw [if_pos c1, decide_eq_true (by omega)]
      · rw [if_neg c1]
        by_cases c2 : (b.natAbs : Int) * 9 / 18446744073709551616 = (a.natAbs : Int) * 10 / 18446744073709551616
        · rw [if_pos c2]
          congr 1
          apply decide_eq_decide.2
          omega
        · rw [if_neg c2, decide_eq_false (by omega)]
    · rw [decide_eq_false sb, if_pos (by decide), decide_eq_true (by omega)]
  · rw [decide_eq_false sa]
    by_cases sb : b < 0
    · rw [decide_eq_true sb, if_pos (by decide), decide_eq_false (by omega)]
    · rw [decide_eq_false sb, if_neg (by decide), if_neg (by decide)]
      by_cases c1 : (a.natAbs : Int) * 10 / 18446744073709551616 < (b.natAbs : Int) * 9 / 18446744073709551616
      · rw [if_pos c1, decide_eq_true (by omega)]
      · rw [if_neg c1]
        by_cases c2 : (a.natAbs : Int) * 10 / 18446744073709551616 = (b.natAbs : Int) * 9 / 18446744073709551616
        · rw [if_pos c2]
          congr 1
          apply decide_eq_decide.2
          omega
        · rw [if_neg c2, decide_eq_false (by omega)]
theorem own_def (f0 f1 f2 f3 f4 f5 : Int) (h4 : I64 f4) (h5 : I64 f5) : undervalue_Deficit.f f0 f1 f2 f3 f4 f5 = some (defV f1 f4 f5) := by
  unfold undervalue_Deficit.f defV
  split
  · rw [below_eq f4 f5 h4 h5, Option.bind_some]
    by_cases h : 10 * f4 < 9 * f5
    · rw [decide_eq_true h, if_pos rfl, if_pos h]
    · rw [decide_eq_false h, if_neg (by decide), if_neg h]
  · rfl
theorem wrap_I (x : Int) : I64 (wrap64 x) := by unfold I64 wrap64; omega

theorem UndervalueDeficit : TUndervalueDeficit.Pure := by
  intro a0 a1 a2 a3 h0 _ _ _
  refine Ev.rounds ?_
  obtain ⟨_, _, _, _, ⟨g0, g1⟩, g2, g3⟩ := h0
  have h4 : I64 a0.f4 := ⟨g0, by omega⟩
  have h5 : I64 a0.f5 := ⟨g2, by omega⟩
  unfold insolvencylaw27_UndervalueDeficit.f
  refine Ev.bind df_awake ?_
  simp only [if_true, own_def _ _ _ _ _ _ h4 h5, own_def _ _ _ _ _ _ (wrap_I _) (wrap_I _), Option.bind_some]
  refine Ev.bind (ref_def _ _ _ _ _ _ h4 h5) ?_
  simp only [if_true]
  refine Ev.bind (ref_def _ _ _ _ _ _ (wrap_I _) (wrap_I _)) ?_
  simp only [beq_self_eq_true]
  exact Ev.now _
end Go.Proofs.Ytljenpakncmlkaa.Pure
