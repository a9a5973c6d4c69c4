/- What insolvencylaw0.Rows builds: rows in order, each between two different parties of the given number, with small numbers. -/
import Derived.Test.YtljenpakncmlkaaTypes
import Derived.Test.YtljenpakncmlkaaPAllx3
namespace Go.Proofs.Ytljenpakncmlkaa.LRows
open Go.RowKit Go.Proofs.YtljenpakncmlkaaW.PrintWords Go.Proofs.Ytljenpakncmlkaa.PAll Go.Proofs.Ytljenpakncmlkaa.Types

theorem w64 {x : Int} (h0 : -9223372036854775808 ≤ x) (h1 : x ≤ 9223372036854775807) : wrap64 x = x := by unfold wrap64; omega
theorem next64 {i n : Nat} (h : i < n) (hn : n ≤ maxLen) : wrap64 ((i : Int) + 1) = ((i + 1 : Nat) : Int) := by
  unfold maxLen at hn; rw [w64 (by omega) (by omega)]; omega

/-- A row of a built history. -/
def GoodRow (n : Int) (x : S36) : Prop :=
  0 ≤ x.f0 ∧ 1 ≤ x.f1 ∧ x.f1 ≤ 3 ∧ 0 ≤ x.f2 ∧ x.f2 < n ∧ 0 ≤ x.f3 ∧ x.f3 < n ∧ x.f2 ≠ x.f3 ∧ 0 ≤ x.f4 ∧ x.f4 < 40 ∧ 0 ≤ x.f5 ∧ x.f5 < 60 ∧ (x.f1 ≠ 3 → x.f5 = 0)
/-- What has been built after some rounds. -/
structure Built (n most day : Int) (r : List S36) : Prop where
  len : (r.length : Int) ≤ most
  good : ∀ x ∈ r, GoodRow n x ∧ x.f0 ≤ day
  asc : r.Pairwise (fun a b => a.f0 ≤ b.f0)
  day0 : 0 ≤ day
  day1 : day ≤ 5 * most

theorem Built.step {n most day : Int} {out : List S36} (hb : Built n most day out) (hlt : (out.length : Int) < most) (hday : day ≤ 5 * out.length) (x : S36) (hg : GoodRow n x) (h0 : day ≤ x.f0) (h5 : x.f0 ≤ day + 5) :
    Built n most x.f0 (out ++ [x]) ∧ x.f0 ≤ 5 * ((out ++ [x]).length : Nat) := by
  obtain ⟨hl, hgood, hasc, d0, d1⟩ := hb
  have hlen : (((out ++ [x]).length : Nat) : Int) = out.length + 1 := by simp
  refine ⟨⟨by omega, ?_, ?_, by omega, by omega⟩, by omega⟩
  · intro y hy
    rcases List.mem_append.1 hy with hy | hy
    · have := hgood y hy; exact ⟨this.1, by omega⟩
    · rw [List.mem_singleton.1 hy]; exact ⟨hg, Int.le_refl _⟩
  · rw [List.pairwise_append]
    refine ⟨hasc, by simp, fun y hy z hz => ?_⟩
    rw [List.mem_singleton.1 hz]
    have := (hgood y hy).2
    omega

theorem rd_mem (l : List S43) (i : Nat) (h : i < l.length) : rd_T43 l (i : Int) ∈ l := by
  unfold rd_T43
  rw [Int.toNat_natCast, List.getD_eq_getElem?_getD, List.getElem?_eq_getElem h]
  exact List.getElem_mem h

theorem rows_loop (n most : Int) (hn : n ≤ 1000) (hm0 : 0 ≤ most) (hm : most ≤ 1000) (l : List S43) (hl : ok22 l) (d : Nat) : ∀ (k : Nat) (out : List S36) (day : Int) (i : Nat),
    l.length - i = d → i ≤ l.length → 4 * d + 1 < k → Built n most day out → day ≤ 5 * out.length →
    ∃ r day', insolvencylaw0_Rows.l0 k n most out day l (l.length : Int) (i : Int) = some r ∧ Built n most day' r := by
  induction d with
  | zero =>
    intro k out day i hd hi hk hb hday
    obtain ⟨k, rfl⟩ : ∃ m, k = m + 2 := ⟨k - 2, by omega⟩
    refine ⟨out, day, ?_, hb⟩
    simp only [insolvencylaw0_Rows.l0, insolvencylaw0_Rows.j4]
    rw [if_neg (by omega)]
  | succ d ih =>
    intro k out day i hd hi hk hb hday
    obtain ⟨k, rfl⟩ : ∃ m, k = m + 4 := ⟨k - 4, by omega⟩
    have hlt : i < l.length := by omega
    have c1 : (i : Int) < (l.length : Int) := by omega
    have c0 : (0 : Int) ≤ (i : Int) := by omega
    by_cases hfull : (out.length : Int) ≥ most
    · refine ⟨out, day, ?_, hb⟩
      simp only [insolvencylaw0_Rows.l0, insolvencylaw0_Rows.j4, insolvencylaw0_Rows.j1]
      rw [if_pos c1, if_pos c0, if_pos c1, if_pos hfull]
      simp
    · by_cases hn2 : n < 2
      · refine ⟨out, day, ?_, hb⟩
        simp only [insolvencylaw0_Rows.l0, insolvencylaw0_Rows.j4, insolvencylaw0_Rows.j1]
        rw [if_pos c1, if_pos c0, if_pos c1, if_neg hfull]
        simp [hn2]
      · obtain ⟨h0, h1, h2, h3, h4⟩ := hl.2 _ (rd_mem l i hlt)
        unfold ok40 at h0 h1 h2 h3 h4
        generalize hx : rd_T43 l (i : Int) = x at *
        have e0 : Aside0 (wrap64 (Int.tmod x.f0 6) = x.f0 % 6) := Aside0.mk <| by rw [Int.tmod_eq_emod_of_nonneg h0.1, w64 (by omega) (by omega)]
        have e1 : Aside0 (wrap64 (1 + wrap64 (Int.tmod x.f1 3)) = 1 + x.f1 % 3) := Aside0.mk <| by rw [Int.tmod_eq_emod_of_nonneg h1.1, w64 (x := x.f1 % 3) (by omega) (by omega), w64 (by omega) (by omega)]
        have e2 : Aside0 (Int.tmod (wrap64 x.f2) n = x.f2 % n) := Aside0.mk <| by rw [w64 (by omega) (by omega), Int.tmod_eq_emod_of_nonneg h2.1]
        have en : Aside0 (wrap64 (n - 1) = n - 1) := Aside0.mk <| w64 (by omega) (by omega)
        have e3 : Aside0 (Int.tmod (wrap64 x.f3) (n - 1) = x.f3 % (n - 1)) := Aside0.mk <| by rw [w64 (by omega) (by omega), Int.tmod_eq_emod_of_nonneg h3.1]
        have e4 : Aside0 (wrap64 (Int.tmod x.f4 40) = x.f4 % 40) := Aside0.mk <| by rw [Int.tmod_eq_emod_of_nonneg h4.1, w64 (by omega) (by omega)]
        have e5 : Aside0 (wrap64 (Int.tmod (IntKind.u16.wrap (Int.tdiv x.f4 40)) 60) = x.f4 / 40 % 60) := Aside0.mk <| by
          rw [Int.tdiv_eq_ediv_of_nonneg h4.1]
          have : IntKind.u16.wrap (x.f4 / 40) = x.f4 / 40 := by simp [IntKind.wrap, IntKind.signed, IntKind.bits]; omega
          rw [this, Int.tmod_eq_emod_of_nonneg (by omega), w64 (by omega) (by omega)]
        have d0 : Aside0 (wrap64 (day + x.f0 % 6) = day + x.f0 % 6) := Aside0.mk <| by have := hb.day0; have := hb.day1; rw [w64 (by omega) (by omega)]
        have m2 := Int.emod_nonneg x.f2 (show n ≠ 0 by omega)
        have m2' := Int.emod_lt_of_pos x.f2 (show 0 < n by omega)
        have m3 := Int.emod_nonneg x.f3 (show n - 1 ≠ 0 by omega)
        have m3' := Int.emod_lt_of_pos x.f3 (show 0 < n - 1 by omega)
        have e3' : Aside0 (wrap64 (x.f3 % (n - 1) + 1) = x.f3 % (n - 1) + 1) := Aside0.mk <| w64 (by omega) (by omega)
        have hlen : out.length < 2932031007402 := by omega
        have r0 : 0 ≤ day + x.f0 % 6 := by have := hb.day0; omega
        have r1 : 1 ≤ 1 + x.f1 % 3 ∧ 1 + x.f1 % 3 ≤ 3 := by omega
        have r4 : 0 ≤ x.f4 % 40 ∧ x.f4 % 40 < 40 := by omega
        have r5 : day ≤ day + x.f0 % 6 ∧ day + x.f0 % 6 ≤ day + 5 := by omega
        -- whatever row comes of it, the rest goes by induction
        have go : ∀ f t w : Int, 0 ≤ f → f < n → 0 ≤ t → t < n → f ≠ t → 0 ≤ w → w < 60 → (1 + x.f1 % 3 ≠ 3 → w = 0) →
            ∃ r day', insolvencylaw0_Rows.l0 k n most (out ++ [(⟨day + x.f0 % 6, 1 + x.f1 % 3, f, t, x.f4 % 40, w⟩ : S36)]) (day + x.f0 % 6) l (l.length : Int) (wrap64 ((i : Int) + 1)) = some r ∧ Built n most day' r := by
          intro f t w a b c d' e g h' hw0
          have hst := Built.step hb (by omega) hday (⟨day + x.f0 % 6, 1 + x.f1 % 3, f, t, x.f4 % 40, w⟩ : S36) ⟨r0, r1.1, r1.2, a, b, c, d', e, r4.1, r4.2, g, h', hw0⟩ r5.1 r5.2
          rw [next64 hlt hl.1]
          exact ih k _ _ (i + 1) (by omega) (by omega) (by omega) hst.1 hst.2
        simp only [insolvencylaw0_Rows.l0, insolvencylaw0_Rows.j1, insolvencylaw0_Rows.j2, insolvencylaw0_Rows.j3]
        rw [if_pos c1, if_pos c0, if_pos c1, if_neg hfull]
        simp only [hx, hn2, decide_false, Bool.false_eq_true, if_false, e0.out, e1.out, e2.out, en.out, e3.out, e4.out, e5.out, d0.out, e3'.out, hlen, if_true]
        have n0 : ¬ n = 0 := by omega
        have n1 : ¬ n - 1 = 0 := by omega
        rw [if_neg n0, if_neg n1]
        by_cases hge : x.f3 % (n - 1) ≥ x.f2 % n
        · rw [if_pos hge]
          by_cases h3k : 1 + x.f1 % 3 = 3
          · rw [if_pos h3k]; exact go _ _ _ m2 m2' (by omega) (by omega) (by omega) (by omega) (by omega) (fun h => absurd h3k h)
          · rw [if_neg h3k]; exact go _ _ _ m2 m2' (by omega) (by omega) (by omega) (by omega) (by omega) (fun _ => rfl)
        · rw [if_neg hge]
          by_cases h3k : 1 + x.f1 % 3 = 3
          · rw [if_pos h3k]; exact go _ _ _ m2 m2' (by omega) (by omega) (by omega) (by omega) (by omega) (fun h => absurd h3k h)
          · rw [if_neg h3k]; exact go _ _ _ m2 m2' (by omega) (by omega) (by omega) (by omega) (by omega) (fun _ => rfl)

theorem rows_built (n most : Int) (hn : n ≤ 1000) (hm0 : 0 ≤ most) (hm : most ≤ 1000) (l : List S43) (hl : ok22 l) :
    ∃ r day, Ev (fun k => insolvencylaw0_Rows.f k l n most) r ∧ Built n most day r := by
  obtain ⟨r, day, hr, hb⟩ := rows_loop n most hn hm0 hm l hl l.length (4 * l.length + 2) [] 0 0 (by omega) (by omega) (by omega) { len := by simpa using hm0, good := fun x hx => by simp at hx, asc := List.Pairwise.nil, day0 := Int.le_refl _, day1 := by omega } (by simp)
  exact ⟨r, day, Ev.of (fun k => insolvencylaw0_Rows.mono _ _ _ k) (k := 4 * l.length + 2) hr, hb⟩
end Go.Proofs.Ytljenpakncmlkaa.LRows
