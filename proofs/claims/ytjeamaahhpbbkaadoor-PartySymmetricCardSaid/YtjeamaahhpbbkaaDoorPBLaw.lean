/- party.Controlled at built parties: the list of the least closed set. -/
import Derived.Test.YtjeamaahhpbbkaaDoorPBuild
import Derived.Test.YtjeamaahhpbbkaaDoorPAllx15
import Derived.Test.YtjeamaahhpbbkaaDoorPAllx13
namespace Go.Proofs.YtjeamaahhpbbkaaDoor.PB
open Go.RowKit Go.Proofs.YtjeamaahhpbbkaaDoorW.PrintWords Go.Proofs.YtjeamaahhpbbkaaDoor.PAll

/-- The members from i on, in order. -/
def lst (t : Nat → Bool) (i d : Nat) : List Int := ((List.range' i d).filter t).map (fun j => ((j : Nat) : Int))
theorem lst_succ (t : Nat → Bool) (i d : Nat) : lst t i (d + 1) = if t i = true then ((i : Nat) : Int) :: lst t (i + 1) d else lst t (i + 1) d := by
  unfold lst
  rw [List.range'_succ, List.filter_cons]
  split <;> rfl
theorem lst_len (t : Nat → Bool) (i d : Nat) : (lst t i d).length ≤ d := by
  unfold lst
  rw [List.length_map]
  exact Nat.le_trans (List.length_filter_le _ _) (by rw [List.length_range']; exact Nat.le_refl _)
theorem lst_any (t : Nat → Bool) (N c : Nat) (h : c < N) : (lst t 0 N).any (fun y => y == ((c : Nat) : Int)) = t c := by
  unfold lst
  rw [List.any_map]
  cases ht : t c with
  | true =>
    rw [List.any_eq_true]
    exact ⟨c, List.mem_filter.2 ⟨by rw [List.mem_range'_1]; omega, ht⟩, by simp⟩
  | false =>
    rw [List.any_eq_false]
    intro j hj
    have h2 := (List.mem_filter.1 hj).2
    intro h3
    have h4 : ((j : Nat) : Int) = ((c : Nat) : Int) := beq_iff_eq.1 h3
    obtain rfl : j = c := by omega
    rw [ht] at h2
    cases h2
theorem lst_mem (t : Nat → Bool) (N : Nat) (x : Int) (h : x ∈ lst t 0 N) : ∃ j : Nat, x = (j : Int) ∧ j < N ∧ t j = true := by
  unfold lst at h
  obtain ⟨j, hj, rfl⟩ := List.mem_map.1 h
  obtain ⟨h1, h2⟩ := List.mem_filter.1 hj
  rw [List.mem_range'_1] at h1
  exact ⟨j, rfl, by omega, h2⟩
theorem list_loop (N : Nat) (hN : N ≤ 7) (t : Nat → Bool) (d : Nat) : ∀ (i : Nat) (x : List Int), N - i = d → i ≤ N → x.length ≤ i → Ev (fun k => party_list.l0 k x (tb N t) (((tb N t).length : Nat) : Int) (i : Int)) (x ++ lst t i d) := by
  induction d with
  | zero =>
    intro i x hd hi hx
    refine Ev.step (fun k => by simp only [party_list.l0]; rfl) ?_
    have c : ¬ ((i : Nat) : Int) < (((tb N t).length : Nat) : Int) := by rw [tb_len]; omega
    simp only [c, if_false]
    have e : x ++ lst t i 0 = x := by unfold lst; simp
    rw [e]
    exact Ev.now _
  | succ d ih =>
    intro i x hd hi hx
    have hlt : i < N := by omega
    have c : ((i : Nat) : Int) < (((tb N t).length : Nat) : Int) := by rw [tb_len]; omega
    have c0 : (0 : Int) ≤ ((i : Nat) : Int) := by omega
    have h8 : x.length < 17592186044416 := by omega
    have h1 := ih (i + 1) (x ++ [((i : Nat) : Int)]) (by omega) (by omega) (by rw [List.length_append]; simp only [List.length_cons, List.length_nil]; omega)
    have h2 := ih (i + 1) x (by omega) (by omega) (by omega)
    refine Ev.step (fun k => by simp only [party_list.l0]; rfl) ?_
    simp only [c, c0, if_true, tb_rd N t i hlt, nxt hlt (by omega), h8]
    rw [lst_succ]
    by_cases ht : t i = true
    · simp only [ht, if_true]
      rw [List.append_assoc] at h1
      exact h1
    · simp only [ht]
      exact h2
theorem list_ev (N : Nat) (hN : N ≤ 7) (t : Nat → Bool) : Ev (fun k => party_list.f k (tb N t)) (lst t 0 N) := by
  have h := list_loop N hN t N 0 [] rfl (Nat.zero_le _) (Nat.le_refl _)
  rw [List.nil_append] at h
  exact h
theorem Controlled_ev {N : Nat} {K : List Int} {L : List Sk} {T : List S38} (k : GoodK N K) (g : GoodS N K L) (ht : GoodT N T) (a : Nat) (ha : a < N) : ∃ t, Ev (fun f => party_Controlled.f f K (L.map mk) T (a : Int)) (lst t 0 N, 0) ∧ Fin N a L t := by
  have hN := k.seven
  have hk := k.len
  obtain ⟨t, h1, h2⟩ := controlled_ev g hN hk a T
  refine ⟨t, ?_, h2⟩
  unfold party_Controlled.f
  refine Ev.bind (check_ev k g ht) ?_
  simp only [if_true, is_in K (L.map mk) T (a : Int) (by omega) (by omega), Option.bind_some]
  exact Ev.bind h1 (Ev.bind (list_ev N hN t) (Ev.now _))
set_option maxRecDepth 100000 in
theorem aw : Ev (fun k => insolvencylaw8_awake.f k) true := Ev.of (fun k => insolvencylaw8_awake.mono k) (k := 60) (by kernel_rfl)
end Go.Proofs.YtjeamaahhpbbkaaDoor.PB
