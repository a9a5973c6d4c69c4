/- What insolvencylaw0.Parties builds: kinds, stakes of tenths, ties. -/
import Derived.Test.YtjeamaahhpbbkaaDoorPBChk
import Derived.Test.YtjeamaahhpbbkaaDoorPAllx16
namespace Go.Proofs.YtjeamaahhpbbkaaDoor.PB
open Go.RowKit Go.Proofs.YtjeamaahhpbbkaaDoorW.PrintWords Go.Proofs.YtjeamaahhpbbkaaDoor.PAll

theorem nxtM {i n : Nat} (h : i < n) (hn : n ≤ maxLen) : wrap64 ((i : Int) + 1) = ((i + 1 : Nat) : Int) := by
  unfold maxLen at hn; rw [w64 (by omega) (by omega)]; omega
def all : Nat → Bool := fun _ => true
/-- The votes that are given away, company by company. -/
def sm (N : Nat) (L : List Sk) : List Int := (List.range N).map (fun c => (vt all c L : Int))
theorem sm_len (N : Nat) (L : List Sk) : (sm N L).length = N := by unfold sm; rw [List.length_map, List.length_range]
theorem sm_rd (N : Nat) (L : List Sk) (c : Nat) (h : c < N) : rd (sm N L) (c : Int) = (vt all c L : Int) := by
  unfold rd sm
  rw [Int.toNat_natCast, List.getD_eq_getElem?_getD, List.getElem?_map, List.getElem?_range h]; rfl
theorem sm_put (N : Nat) (L : List Sk) (x : Sk) : (sm N L).set x.2.1 ((vt all x.2.1 L : Int) + (x.2.2 : Int)) = sm N (L ++ [x]) := by
  refine List.ext_getElem? fun j => ?_
  by_cases hj : j < N
  · have e : (sm N (L ++ [x]))[j]? = some (vt all j (L ++ [x]) : Int) := by unfold sm; rw [List.getElem?_map, List.getElem?_range hj]; rfl
    rw [e, vt_app]
    by_cases c : x.2.1 = j
    · subst c
      rw [List.getElem?_set_self (by rw [sm_len]; exact hj)]
      simp only [vt, all, true_and, if_true, Nat.add_zero]
      congr 1
    · rw [List.getElem?_set_ne c]
      have e2 : vt all j [x] = 0 := by simp only [vt]; rw [if_neg (fun h => c h.2)]
      rw [e2, Nat.add_zero]
      unfold sm; rw [List.getElem?_map, List.getElem?_range hj]; rfl
  · rw [List.getElem?_eq_none (by rw [List.length_set, sm_len]; omega), List.getElem?_eq_none (by rw [sm_len]; omega)]
theorem sm_zero (N : Nat) : List.replicate N (0 : Int) = sm N [] := by
  refine List.ext_getElem? fun j => ?_
  unfold sm
  rw [List.getElem?_map]
  by_cases h : j < N
  · rw [List.getElem?_replicate_of_lt h, List.getElem?_range h]; rfl
  · rw [List.getElem?_eq_none (by rw [List.length_replicate]; omega), List.getElem?_eq_none (l := List.range N) (by rw [List.length_range]; omega)]; rfl
def U16 (x : Int) : Prop := 0 ≤ x ∧ x ≤ 65535
theorem mods (x : Int) (h : U16 x) (N : Nat) (hN : 0 < N) : ∃ a : Nat, a < N ∧ Int.tmod (wrap64 x) (N : Int) = (a : Int) := by
  obtain ⟨h0, h1⟩ := h
  refine ⟨(x % (N : Int)).toNat, ?_, ?_⟩
  · have := Int.emod_nonneg x (show (N : Int) ≠ 0 by omega)
    have := Int.emod_lt_of_pos x (show 0 < (N : Int) by omega)
    omega
  · have := Int.emod_nonneg x (show (N : Int) ≠ 0 by omega)
    rw [w64 (by omega) (by omega), Int.tmod_eq_emod_of_nonneg h0]
    omega
theorem tenth (x : Int) (h : U16 x) : ∃ v : Nat, 1 ≤ v ∧ v ≤ 7 ∧ wrap64 (1 + wrap64 (Int.tmod x 7)) = (v : Int) := by
  obtain ⟨h0, h1⟩ := h
  refine ⟨(1 + x % 7).toNat, by omega, by omega, ?_⟩
  rw [Int.tmod_eq_emod_of_nonneg h0, w64 (x := x % 7) (by omega) (by omega), w64 (by omega) (by omega)]
  omega
abbrev Out := List Int × List S36 × List S38
section
variable {N : Nat} {K : List Int} (k : GoodK N K)
include k in
/-- The ties. -/
theorem bl2 (L : List Sk) (R : List S66) (hl : R.length ≤ maxLen) (hR : ∀ x ∈ R, U16 x.f0 ∧ U16 x.f1) (d : Nat) : ∀ (i : Nat) (T : List S38), R.length - i = d → i ≤ R.length → GoodT N T →
    ∃ T', GoodT N T' ∧ Ev (fun f => insolvencylaw0_Parties.l2 f (N : Int) R ((R.length : Nat) : Int) (i : Int) K (L.map mk) T) (K, L.map mk, T') := by
  have h2 := k.two
  induction d with
  | zero =>
    intro i T hd hi hT
    refine ⟨T, hT, Ev.step (fun k => by simp only [insolvencylaw0_Parties.l2]; rfl) ?_⟩
    have c : ¬ ((i : Nat) : Int) < ((R.length : Nat) : Int) := by omega
    simp only [c, if_false]
    exact Ev.now _
  | succ d ih =>
    intro i T hd hi hT
    have hlt : i < R.length := by omega
    have hm : rd_T66 R (i : Int) ∈ R := by
      show R.getD (Int.toNat (i : Int)) z66 ∈ R
      rw [Int.toNat_natCast, List.getD_eq_getElem?_getD, List.getElem?_eq_getElem hlt]
      exact List.getElem_mem hlt
    obtain ⟨u0, u1⟩ := hR _ hm
    obtain ⟨a, ha, ea⟩ := mods _ u0 N (by omega)
    obtain ⟨b, hb, eb⟩ := mods _ u1 N (by omega)
    have e2 := nxtM hlt hl
    have c : ((i : Nat) : Int) < ((R.length : Nat) : Int) := by clear ea eb e2; omega
    have c0 : (0 : Int) ≤ ((i : Nat) : Int) := by clear ea eb e2; omega
    have cN : ¬ ((N : Int) = 0) := by clear ea eb e2; omega
    have skip : ∃ T', GoodT N T' ∧ Ev (fun f => insolvencylaw0_Parties.j5 f (N : Int) (a : Int) (b : Int) R ((R.length : Nat) : Int) (i : Int) false K (L.map mk) T) (K, L.map mk, T') := by
      obtain ⟨T', h1, h3⟩ := ih (i + 1) T (by clear ea eb e2; omega) (by clear ea eb e2; omega) hT
      refine ⟨T', h1, Ev.step (fun k => by simp only [insolvencylaw0_Parties.j5]; rfl) ?_⟩
      simp only [Bool.false_eq_true, if_false, e2]
      exact h3
    have main : ∃ T', GoodT N T' ∧ Ev (fun f => if (a : Int) = (b : Int) then insolvencylaw0_Parties.j5 f (N : Int) (a : Int) (b : Int) R ((R.length : Nat) : Int) (i : Int) false K (L.map mk) T else insolvencylaw0_Parties.j5 f (N : Int) (a : Int) (b : Int) R ((R.length : Nat) : Int) (i : Int) (decide (((T.length : Nat) : Int) < 6)) K (L.map mk) T) (K, L.map mk, T') := by
      by_cases hab : (a : Int) = (b : Int)
      · simp only [hab, if_true]
        rw [hab] at skip
        exact skip
      · simp only [hab, if_false]
        by_cases h6 : ((T.length : Nat) : Int) < 6
        · rw [decide_eq_true h6]
          obtain ⟨T', h1, h3⟩ := ih (i + 1) (T ++ [⟨(a : Int), (b : Int)⟩]) (by clear ea eb e2; omega) (by clear ea eb e2; omega) ⟨by rw [List.length_append]; simp only [List.length_cons, List.length_nil]; clear ea eb e2; omega, fun t ht => by
            rcases List.mem_append.1 ht with ht | ht
            · exact hT.2 t ht
            · rw [List.mem_singleton.1 ht]
              exact ⟨by simp only; clear ea eb e2; omega, by simp only; clear ea eb e2; omega, by simp only; clear ea eb e2; omega, by simp only; clear ea eb e2; omega, hab⟩⟩
          refine ⟨T', h1, Ev.step (fun k => by simp only [insolvencylaw0_Parties.j5]; rfl) ?_⟩
          have h7 : T.length < 8796093022208 := by clear ea eb e2; omega
          simp only [if_true, h7, e2]
          exact h3
        · rw [decide_eq_false h6]
          exact skip
    obtain ⟨T', h1, h3⟩ := main
    refine ⟨T', h1, Ev.step (fun k => by simp only [insolvencylaw0_Parties.l2]; rfl) ?_⟩
    simp only [c, c0, cN, if_true, if_false, ea, eb]
    exact h3
include k in
/-- The stakes. -/
theorem bl1 (R : List S66) (hlR : R.length ≤ maxLen) (hR : ∀ x ∈ R, U16 x.f0 ∧ U16 x.f1) (S : List S65) (hl : S.length ≤ maxLen) (hS : ∀ x ∈ S, U16 x.f0 ∧ U16 x.f1 ∧ U16 x.f2) (d : Nat) : ∀ (i : Nat) (L : List Sk), S.length - i = d → i ≤ S.length → GoodS N K L →
    ∃ L' T', GoodS N K L' ∧ GoodT N T' ∧ Ev (fun f => insolvencylaw0_Parties.l1 f R (N : Int) (sm N L) S ((S.length : Nat) : Int) (i : Int) K (L.map mk)) (K, L'.map mk, T') := by
  have h2 := k.two
  have h7 := k.seven
  have hk := k.len
  induction d with
  | zero =>
    intro i L hd hi g
    obtain ⟨T', t1, t2⟩ := bl2 k L R hlR hR R.length 0 [] rfl (Nat.zero_le _) ⟨Nat.zero_le _, fun t ht => by cases ht⟩
    refine ⟨L, T', g, t1, Ev.step (fun k => by simp only [insolvencylaw0_Parties.l1]; rfl) ?_⟩
    have c : ¬ ((i : Nat) : Int) < ((S.length : Nat) : Int) := by omega
    simp only [c, if_false]
    exact t2
  | succ d ih =>
    intro i L hd hi g
    have hlt : i < S.length := by omega
    have hm : rd_T65 S (i : Int) ∈ S := by
      show S.getD (Int.toNat (i : Int)) z65 ∈ S
      rw [Int.toNat_natCast, List.getD_eq_getElem?_getD, List.getElem?_eq_getElem hlt]
      exact List.getElem_mem hlt
    obtain ⟨u0, u1, u2⟩ := hS _ hm
    obtain ⟨a, ha, ea⟩ := mods _ u0 N (by omega)
    obtain ⟨c, hc, ec⟩ := mods _ u1 N (by omega)
    obtain ⟨v, v1, v7, ev⟩ := tenth _ u2
    have e2 := nxtM hlt hl
    have hlen := g.len
    have hsum := g.sum c
    have d1 : ((i : Nat) : Int) < ((S.length : Nat) : Int) := by clear ea ec ev e2; omega
    have d0 : (0 : Int) ≤ ((i : Nat) : Int) := by clear ea ec ev e2; omega
    have dN : ¬ ((N : Int) = 0) := by clear ea ec ev e2; omega
    have c0 : (0 : Int) ≤ ((c : Nat) : Int) := by clear ea ec ev e2; omega
    have cK : ((c : Nat) : Int) < ((K.length : Nat) : Int) := by clear ea ec ev e2; omega
    have cS : ((c : Nat) : Int) < (((sm N L).length : Nat) : Int) := by rw [sm_len]; clear ea ec ev e2; omega
    have skip : ∃ L' T', GoodS N K L' ∧ GoodT N T' ∧ Ev (fun f => insolvencylaw0_Parties.j3 f R (N : Int) (sm N L) (a : Int) (c : Int) (v : Int) S ((S.length : Nat) : Int) (i : Int) true K (L.map mk)) (K, L'.map mk, T') := by
      obtain ⟨L', T', h1, h3, h4⟩ := ih (i + 1) L (by clear ea ec ev e2; omega) (by clear ea ec ev e2; omega) g
      refine ⟨L', T', h1, h3, Ev.step (fun k => by simp only [insolvencylaw0_Parties.j3]; rfl) ?_⟩
      simp only [if_true, e2]
      exact h4
    have main : ∃ L' T', GoodS N K L' ∧ GoodT N T' ∧ Ev (fun f => if (a : Int) = (c : Int) then insolvencylaw0_Parties.j3 f R (N : Int) (sm N L) (a : Int) (c : Int) (v : Int) S ((S.length : Nat) : Int) (i : Int) true K (L.map mk) else (if rd K (c : Int) = 2 then (if wrap64 ((vt all c L : Int) + (v : Int)) > 10 then insolvencylaw0_Parties.j3 f R (N : Int) (sm N L) (a : Int) (c : Int) (v : Int) S ((S.length : Nat) : Int) (i : Int) true K (L.map mk) else insolvencylaw0_Parties.j3 f R (N : Int) (sm N L) (a : Int) (c : Int) (v : Int) S ((S.length : Nat) : Int) (i : Int) (decide ((((L.map mk).length : Nat) : Int) ≥ 20)) K (L.map mk)) else insolvencylaw0_Parties.j3 f R (N : Int) (sm N L) (a : Int) (c : Int) (v : Int) S ((S.length : Nat) : Int) (i : Int) true K (L.map mk))) (K, L'.map mk, T') := by
      by_cases hac : (a : Int) = (c : Int)
      · simp only [hac, if_true]
        rw [hac] at skip
        exact skip
      · simp only [hac, if_false]
        by_cases hK2 : rd K (c : Int) = 2
        · simp only [hK2, if_true]
          have ew : wrap64 ((vt all c L : Int) + (v : Int)) = (vt all c L : Int) + (v : Int) := by
            have : vt all c L ≤ 10 := hsum
            clear ea ec ev e2
            exact w64 (by omega) (by omega)
          rw [ew]
          by_cases h10 : (vt all c L : Int) + (v : Int) > 10
          · simp only [h10, if_true]; exact skip
          · simp only [h10, if_false]
            by_cases h20 : (((L.map mk).length : Nat) : Int) ≥ 20
            · rw [decide_eq_true h20]; exact skip
            · rw [decide_eq_false h20]
              rw [List.length_map] at h20
              have g' : GoodS N K (L ++ [(a, c, v)]) := by
                refine ⟨fun x hx => ?_, fun c' => ?_, by rw [List.length_append]; simp only [List.length_cons, List.length_nil]; clear ea ec ev e2 ew; omega⟩
                · rcases List.mem_append.1 hx with hx | hx
                  · exact g.o x hx
                  · rw [List.mem_singleton.1 hx]
                    refine ⟨ha, hc, fun h => hac (by rw [show a = c from h]), ?_, v1, v7⟩
                    unfold rd at hK2
                    rwa [Int.toNat_natCast] at hK2
                · rw [vt_app]
                  simp only [vt, true_and]
                  have := g.sum c'
                  by_cases hcc : c = c'
                  · subst hcc
                    rw [if_pos rfl]
                    have h11 : ¬ ((vt (fun _ => true) c L : Int) + (v : Int) > 10) := h10
                    clear ea ec ev e2 ew
                    omega
                  · rw [if_neg hcc]
                    clear ea ec ev e2 ew
                    omega
              obtain ⟨L', T', h1, h3, h4⟩ := ih (i + 1) (L ++ [(a, c, v)]) (by clear ea ec ev e2 ew; omega) (by clear ea ec ev e2 ew; omega) g'
              refine ⟨L', T', h1, h3, Ev.step (fun k => by simp only [insolvencylaw0_Parties.j3]; rfl) ?_⟩
              simp only [Bool.false_eq_true, if_false, c0, cS, if_true, sm_rd N L c hc, ew, Int.toNat_natCast]
              refine Ev.bind (ratio10 v v1 v7) ?_
              have h8 : (L.map mk).length < 2513169434916 := by rw [List.length_map]; clear ea ec ev e2 ew; omega
              have e5 : L.map mk ++ [(⟨(a : Int), (c : Int), (⟨(tup (qs v)).1, (tup (qs v)).2.1, (tup (qs v)).2.2⟩ : S33)⟩ : S36)] = (L ++ [(a, c, v)]).map mk := by rw [List.map_append]; rfl
              have e6 : (sm N L).set c ((vt all c L : Int) + (v : Int)) = sm N (L ++ [(a, c, v)]) := sm_put N L (a, c, v)
              simp only [h8, if_true, e2, e5, e6]
              exact h4
        · simp only [hK2, if_false]; exact skip
    obtain ⟨L', T', h1, h3, h4⟩ := main
    refine ⟨L', T', h1, h3, Ev.step (fun k => by simp only [insolvencylaw0_Parties.l1]; rfl) ?_⟩
    simp only [d1, d0, dN, if_true, if_false, ea, ec, ev, c0, cK, cS, sm_rd N L c hc]
    exact h4
end
/-- The kinds, and all. -/
theorem bl0 (a1 : Int) (R : List S66) (hlR : R.length ≤ maxLen) (hR : ∀ x ∈ R, U16 x.f0 ∧ U16 x.f1) (S : List S65) (hl : S.length ≤ maxLen) (hS : ∀ x ∈ S, U16 x.f0 ∧ U16 x.f1 ∧ U16 x.f2) (N : Nat) (h2 : 2 ≤ N) (h7 : N ≤ 7) (d : Nat) : ∀ (i : Nat) (K : List Int), N - i = d → i ≤ N → K.length = i → (∀ x ∈ K, x = 1 ∨ x = 2) →
    ∃ K' L' T', GoodK N K' ∧ GoodS N K' L' ∧ GoodT N T' ∧ Ev (fun f => insolvencylaw0_Parties.l0 f a1 S R (N : Int) (List.replicate N 0) (i : Int) K) (K', L'.map mk, T') := by
  induction d with
  | zero =>
    intro i K hd hi hK h12
    obtain rfl : i = N := by omega
    have k : GoodK i K := ⟨hK, h2, h7, h12⟩
    obtain ⟨L', T', h1, h3, h4⟩ := bl1 k R hlR hR S hl hS S.length 0 [] rfl (Nat.zero_le _) ⟨fun x hx => (nomatch hx), fun c => Nat.zero_le _, Nat.zero_le _⟩
    refine ⟨K, L', T', k, h1, h3, Ev.step (fun k => by simp only [insolvencylaw0_Parties.l0]; rfl) ?_⟩
    have c : ¬ ((i : Nat) : Int) < ((i : Nat) : Int) := Int.lt_irrefl _
    simp only [c, if_false, sm_zero]
    exact h4
  | succ d ih =>
    intro i K hd hi hK h12
    have hlt : i < N := by omega
    have e2 := nxt hlt (by omega)
    have c : ((i : Nat) : Int) < ((N : Nat) : Int) := by clear e2; omega
    have put : ∀ b : Bool, ∃ K' L' T', GoodK N K' ∧ GoodS N K' L' ∧ GoodT N T' ∧ Ev (fun f => insolvencylaw0_Parties.j1 f a1 S R (N : Int) (List.replicate N 0) (i : Int) 2 b K) (K', L'.map mk, T') := by
      intro b
      have go : ∀ x : Int, x = 1 ∨ x = 2 → ∃ K' L' T', GoodK N K' ∧ GoodS N K' L' ∧ GoodT N T' ∧ Ev (fun f => insolvencylaw0_Parties.l0 f a1 S R (N : Int) (List.replicate N 0) ((i + 1 : Nat) : Int) (K ++ [x])) (K', L'.map mk, T') := fun x hx =>
        ih (i + 1) (K ++ [x]) (by clear e2; omega) (by clear e2; omega) (by rw [List.length_append, hK]; rfl) (fun y hy => (List.mem_append.1 hy).elim (h12 y) (fun h => by rw [List.mem_singleton.1 h]; exact hx))
      have h8 : K.length < 17592186044416 := by clear e2; omega
      cases b with
      | true =>
        obtain ⟨K', L', T', h1, h3, h4, h5⟩ := go 1 (.inl rfl)
        refine ⟨K', L', T', h1, h3, h4, Ev.step (fun k => by simp only [insolvencylaw0_Parties.j1]; rfl) ?_⟩
        simp only [if_true, h8, e2]
        exact h5
      | false =>
        obtain ⟨K', L', T', h1, h3, h4, h5⟩ := go 2 (.inr rfl)
        refine ⟨K', L', T', h1, h3, h4, Ev.step (fun k => by simp only [insolvencylaw0_Parties.j1]; rfl) ?_⟩
        simp only [Bool.false_eq_true, if_false, if_true, h8, e2]
        exact h5
    have eu : IntKind.u64.wrap ((i : Nat) : Int) = ((i : Nat) : Int) := by clear e2; simp [IntKind.wrap, IntKind.bits, IntKind.signed]; omega
    have c0 : (0 : Int) ≤ ((i : Nat) : Int) := by clear e2 eu; omega
    by_cases h0 : ((i : Nat) : Int) = 0
    · obtain ⟨K', L', T', h1, h3, h4, h5⟩ := put true
      refine ⟨K', L', T', h1, h3, h4, Ev.step (fun k => by simp only [insolvencylaw0_Parties.l0]; rfl) ?_⟩
      rw [h0] at c h5
      simp only [h0, c, if_true]
      exact h5
    · obtain ⟨K', L', T', h1, h3, h4, h5⟩ := put (Go.bits .and .i64 (shr .i64 (wrap64 a1) ((i : Nat) : Int)) 1 == 1)
      refine ⟨K', L', T', h1, h3, h4, Ev.step (fun k => by simp only [insolvencylaw0_Parties.l0]; rfl) ?_⟩
      simp only [c, if_true, h0, if_false, eu, c0]
      exact h5
theorem built (n a1 : Int) (hn : 0 ≤ n ∧ n ≤ 255) (S : List S65) (hl : S.length ≤ maxLen) (hS : ∀ x ∈ S, U16 x.f0 ∧ U16 x.f1 ∧ U16 x.f2) (R : List S66) (hlR : R.length ≤ maxLen) (hR : ∀ x ∈ R, U16 x.f0 ∧ U16 x.f1) :
    ∃ N K L T, GoodK N K ∧ GoodS N K L ∧ GoodT N T ∧ Ev (fun f => insolvencylaw0_Parties.f f n a1 S R) (K, L.map mk, T) := by
  have e : wrap64 (2 + wrap64 (Int.tmod n 6)) = ((2 + (n % 6).toNat : Nat) : Int) := by
    rw [Int.tmod_eq_emod_of_nonneg hn.1, w64 (x := n % 6) (by omega) (by omega), w64 (by omega) (by omega)]; omega
  obtain ⟨K, L, T, h1, h3, h4, h5⟩ := bl0 a1 R hlR hR S hl hS (2 + (n % 6).toNat) (by clear e; omega) (by clear e; omega) _ 0 [] rfl (Nat.zero_le _) rfl (fun _ h => by cases h)
  refine ⟨_, K, L, T, h1, h3, h4, ?_⟩
  have c1 : (0 : Int) ≤ ((2 + (n % 6).toNat : Nat) : Int) := by clear e; omega
  have c2 : 2 + (n % 6).toNat ≤ 35184372088832 := by clear e; omega
  unfold insolvencylaw0_Parties.f
  rw [e]
  simp only [c1, if_true, Int.toNat_natCast, c2]
  exact h5
end Go.Proofs.YtjeamaahhpbbkaaDoor.PB
