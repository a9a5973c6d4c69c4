/- party.Controls at built parties; control is transitive. -/
import Derived.Test.YtjeamaahhpbbkaaDoorPBLaw
import Derived.Test.YtjeamaahhpbbkaaDoorPAllx17
namespace Go.Proofs.YtjeamaahhpbbkaaDoor.PB
open Go.RowKit Go.Proofs.YtjeamaahhpbbkaaDoorW.PrintWords Go.Proofs.YtjeamaahhpbbkaaDoor.PAll

theorem Fin.closed {N a : Nat} {L : List Sk} {t : Nat → Bool} (h : Fin N a L t) : Closed N a L t := fun j hj h1 h2 => (h.own j hj).2 ⟨h1, h2⟩
theorem Fin.uniq {N a : Nat} {L : List Sk} {t u : Nat → Bool} (h : Fin N a L t) (h' : Fin N a L u) (j : Nat) (hj : j < N) : t j = u j := by
  have h1 := h.least u h'.closed j hj
  have h2 := h'.least t h.closed j hj
  cases ht : t j with
  | true => exact (h1 ht).symm
  | false =>
    cases hu : u j with
    | true => rw [ht] at h2; exact absurd (h2 hu) (by decide)
    | false => rfl
section
variable {N : Nat} {K : List Int} {L : List Sk} {T : List S38} (k : GoodK N K) (g : GoodS N K L) (ht : GoodT N T)
/-- What a company that is controlled controls is controlled too. -/
theorem trans {a b c : Nat} {t u : Nat → Bool} (h : Fin N a L t) (h' : Fin N b L u) (hb : t b = true) (hc : c < N) (hu : u c = true) (hca : c ≠ a) : t c = true := by
  have hX : Closed N b L (fun j => t j || decide (j = a)) := by
    intro j hj _ h2
    have hm : vt (pp b (fun j => t j || decide (j = a))) j L ≤ vt (pp a t) j L := by
      refine vt_mono j L fun x _ hx => ?_
      unfold pp at hx ⊢
      rw [Bool.or_eq_true] at hx ⊢
      rcases hx with hx | hx
      · rw [of_decide_eq_true hx]; exact .inr hb
      · rw [Bool.or_eq_true] at hx
        exact hx.symm
    by_cases hja : j = a
    · show (t j || decide (j = a)) = true
      rw [decide_eq_true hja, Bool.or_true]
    · show (t j || decide (j = a)) = true
      rw [(h.own j hj).2 ⟨hja, by omega⟩, Bool.true_or]
  have := h'.least _ hX c hc hu
  simp only [decide_eq_false hca, Bool.or_false] at this
  exact this
include k g ht in
theorem Controls_ev (a c : Nat) (ha : a < N) (hc : c < N) (t : Nat → Bool) (hF : Fin N a L t) : Ev (fun f => party_Controls.f f K (L.map mk) T ((a : Nat) : Int) ((c : Nat) : Int)) (t c, 0) := by
  have hN := k.seven
  have hk := k.len
  obtain ⟨u, h1, h2⟩ := controlled_ev g hN hk a T
  unfold party_Controls.f
  refine Ev.bind (check_ev k g ht) ?_
  have c0 : (0 : Int) ≤ ((c : Nat) : Int) := by omega
  have c1 : ((c : Nat) : Int) < (((tb N u).length : Nat) : Int) := by rw [tb_len]; omega
  simp only [if_true, is_in K (L.map mk) T ((a : Nat) : Int) (by omega) (by omega), is_in K (L.map mk) T ((c : Nat) : Int) (by omega) (by omega), Option.bind_some]
  refine Ev.bind h1 ?_
  simp only [c0, c1, if_true, tb_rd N u c hc, ← hF.uniq h2 c hc]
  exact Ev.now _
end
end Go.Proofs.YtjeamaahhpbbkaaDoor.PB
