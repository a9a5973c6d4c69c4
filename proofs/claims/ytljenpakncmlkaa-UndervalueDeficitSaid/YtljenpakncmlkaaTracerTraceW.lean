/- The walk of undervalue.Trace. -/
import Derived.Test.YtljenpakncmlkaaTracerTrace
namespace Go.Proofs.Ytljenpakncmlkaa.PAll
open Go.RowKit Go.Proofs.YtljenpakncmlkaaW.PrintWords Go.Proofs.YtljenpakncmlkaaW.PrintLast Go.Proofs.YtljenpakncmlkaaW.PrintMore
open Tr
attribute [local go_sem] max2_int min2_int max_two min_two
set_option linter.unusedSimpArgs false
set_option linter.unusedVariables false

set_option maxHeartbeats 8000000 in
set_option maxRecDepth 100000 in
theorem undervalue_Trace.calls (k : Nat) (A0 : Option Addr) (c0 : Nat) (l0 : List S36) (A1 : Option Addr) (c1 : Nat) (l1 : List Int) (a2 : Int) (r1 : List Int) (r2 : Int) (r3 : Int) (w : World) (hr0 : Kd.C k36 w A0 l0.length l0) (hc0 : l0.length ≤ c0) (hr1 : Kd.C (Kd.int .i64) w A1 l1.length l1) (hc1 : l1.length ≤ c1) (h : undervalue_Trace.f k l0 l1 a2 = some (r1, r2, r3)) :
    Calls Try.prog 12 #[.slice A0 l0.length c0, .slice A1 l1.length c1, .int .i64 a2] w fun e w' => ∃ v0_ : Value, e = .returned (.tuple #[v0_, .int .i64 r2, .int .i64 r3]) ∧ Kd.R (Kd.int .i64) 2 w' w.heap.size (fun _ => True) v0_ r1 ∧ Below w.heap.size w w' := by
  have hu1 := Try.underlying36
  have hu2 := Try.underlying49
  have HR0 := Aside0.mk hr0
  have HC0 := Aside0.mk hc0
  have HR1 := Aside0.mk hr1
  have HC1 := Aside0.mk hc1
  clear hr0 hc0 hr1 hc1
  have HB := Aside0.mk (Below.refl w.heap.size w)
  unfold undervalue_Trace.f at h
  obtain ⟨t, hE0, h⟩ := Option.bind_eq_some_iff.mp h
  have hE := Aside0.mk hE0
  clear hE0
  have H : ansF l0 l1 a2 t = some (r1, r2, r3) := h
  clear h
  unfold ansF at H
  by_cases hsz : ¬ (l1.length ≤ 1000000 ∧ l0.length ≤ 1000000)
  · rw [if_pos hsz] at H
    exact absurd H (by simp)
  rw [if_neg hsz] at H
  replace hsz := Decidable.not_not.mp hsz
  have HZ := Aside0.mk hsz
  clear hsz
  go_enter Try.func12, Try.ntmps12
  by_cases e0 : t ≠ 0
  · rw [if_pos e0] at H
    simp only [Option.some.injEq, Prod.mk.injEq] at H
    obtain ⟨rfl, rfl, rfl⟩ := H
    have d0 : (t != 0) = true := bne_iff_ne.mpr e0
    have d1 : (t == 0) = false := beq_eq_false_iff_ne.mpr e0
    go_wp2_with (first | ((with_reducible refine gate_callee (f := 18) rfl ?_); refine goesL_ (some 18) rfl rfl Try.func18 (by kernel_rfl) rfl #[.int .i64 l1.length, .slice A0 l0.length c0] rfl (by (try simp only [List.map_toArray, List.map_cons, List.map_nil]); first | done | rfl) ?_; (with_reducible refine (history_Check.calls k _ _ _ l0 t _ ?side1 ?side2 hE.out).mono ?_); (case side1 => exact HR0.out); (case side2 => exact HC0.out); rintro e w9 ⟨rfl, hb⟩; refine ⟨_, rfl, ?_⟩; have n0_ := Aside0.mk (below_step HB.out hb); clear HB; have HB := n0_; clear n0_ hb))
    go_ret3
    exact ⟨_, rfl, Kd.R_nil _ _ _ _ _, HB.out⟩
  · rw [if_neg e0] at H
    have e1 : t = 0 := Decidable.not_not.mp e0
    subst e1
    clear e0
    have HA := Aside0.mk H
    clear H
    go_wp2_with (first | ((with_reducible refine gate_callee (f := 18) rfl ?_); refine goesL_ (some 18) rfl rfl Try.func18 (by kernel_rfl) rfl #[.int .i64 l1.length, .slice A0 l0.length c0] rfl (by (try simp only [List.map_toArray, List.map_cons, List.map_nil]); first | done | rfl) ?_; (with_reducible refine (history_Check.calls k _ _ _ l0 0 _ ?side1 ?side2 hE.out).mono ?_); (case side1 => exact HR0.out); (case side2 => exact HC0.out); rintro e w9 ⟨rfl, hb⟩; refine ⟨_, rfl, ?_⟩; have n0_ := Aside0.mk (below_step HB.out hb); clear HB; have HB := n0_; clear n0_ hb))
    go_loopg [24] l1.length (fun kq v24 w' => ∃ i : Nat, Aside0 (kq = l1.length - i) ∧ Aside0 (i ≤ l1.length) ∧ v24 = .int .i64 (i : Int) ∧ Aside0 (∀ j : Nat, j < i → inRange (rd l1 (j : Int))) ∧ Aside0 (Below w.heap.size w w'))
    case atStart => exact ⟨0, ⟨rfl⟩, ⟨Nat.zero_le _⟩, rfl, ⟨fun j hj => absurd hj (Nat.not_lt_zero _)⟩, HB⟩
    case round =>
      clear HB
      obtain ⟨i, HK, HI, rfl, HJ, HB⟩ := hrel
      by_cases hlt : i < l1.length
      · have p1 : 0 ≤ (i : Int) := Int.natCast_nonneg _
        have q1 : (i : Int) < (l1.length : Int) := Int.ofNat_lt.mpr hlt
        obtain ⟨ad1, e1, hx1⟩ := Kd.at_int HR1.out (i : Int) p1 q1
        cases e1
        replace hx1 := (HB.out.cell (World.block_lt_of_cell? w _ hx1)).trans hx1
        rw [Int.toNat_natCast] at hx1
        have b1 : decide ((i : Int) < (l1.length : Int)) = true := decide_eq_true q1
        have b2 : decide (i < l1.length) = true := decide_eq_true hlt
        replace p1 := eq_true p1
        by_cases k1 : rd l1 (i : Int) < -1125899906842624
        · have d1 : decide (rd l1 (i : Int) < -1125899906842624) = true := decide_eq_true k1
          have hn : ¬ ∀ x ∈ l1, inRange x := fun hall => by
            have h1 := (hall _ (rd_mem l1 i hlt)).1
            exact absurd k1 (Int.not_lt.mpr h1)
          have H := HA.out
          rw [if_pos hn] at H
          simp only [Option.some.injEq, Prod.mk.injEq] at H
          obtain ⟨rfl, rfl, rfl⟩ := H
          clear hn HA
          go_wp2
          go_ret3
          exact ⟨_, rfl, Kd.R_nil _ _ _ _ _, HB.out⟩
        · have d1 : decide (rd l1 (i : Int) < -1125899906842624) = false := decide_eq_false k1
          by_cases c2 : 1125899906842624 < rd l1 (i : Int)
          · have d2 : decide (1125899906842624 < rd l1 (i : Int)) = true := decide_eq_true c2
            have d3 : decide (rd l1 (i : Int) > 1125899906842624) = true := decide_eq_true c2
            have hn : ¬ ∀ x ∈ l1, inRange x := fun hall => by
              have h1 := (hall _ (rd_mem l1 i hlt)).2
              exact absurd c2 (Int.not_lt.mpr h1)
            have H := HA.out
            rw [if_pos hn] at H
            simp only [Option.some.injEq, Prod.mk.injEq] at H
            obtain ⟨rfl, rfl, rfl⟩ := H
            clear hn HA
            go_wp2
            go_ret3
            exact ⟨_, rfl, Kd.R_nil _ _ _ _ _, HB.out⟩
          · have d2 : decide (1125899906842624 < rd l1 (i : Int)) = false := decide_eq_false c2
            have d3 : decide (rd l1 (i : Int) > 1125899906842624) = false := decide_eq_false c2
            have k3 : -1125899906842624 ≤ rd l1 (i : Int) := Int.not_lt.mp k1
            have k4 : rd l1 (i : Int) ≤ 1125899906842624 := Int.not_lt.mp c2
            have hz : l1.length ≤ 1000000 := HZ.out.1
            go_wp2
            go_roundg (l1.length - (i + 1))
            case measure => have := HK.out; omega
            case rel => exact ⟨i + 1, ⟨rfl⟩, ⟨hlt⟩, by go_num, ⟨fun j hj => by
              rcases Nat.lt_succ_iff_lt_or_eq.mp hj with h1 | rfl
              · exact HJ.out j h1
              · exact ⟨k3, k4⟩⟩, HB⟩
      · have b1 : decide ((i : Int) < (l1.length : Int)) = false := decide_eq_false (fun h => hlt (Int.ofNat_lt.mp h))
        have b2 : decide (i < l1.length) = false := decide_eq_false hlt
        obtain rfl : i = l1.length := by have := HI.out; omega
        have hall : ∀ x ∈ l1, inRange x := all_rd l1 HJ.out
        have H := HA.out
        rw [if_neg (by exact fun h => h hall)] at H
        clear hall HJ HA hlt
        by_cases c1 : a2 < 0
        · have d1 : decide (a2 < 0) = true := decide_eq_true c1
          rw [if_pos (Or.inl c1)] at H
          simp only [Option.some.injEq, Prod.mk.injEq] at H
          obtain ⟨rfl, rfl, rfl⟩ := H
          go_wp2
          go_ret3
          exact ⟨_, rfl, Kd.R_nil _ _ _ _ _, HB.out⟩
        · have d1 : decide (a2 < 0) = false := decide_eq_false c1
          by_cases c2 : (l0.length : Int) ≤ a2
          · have d2 : decide ((l0.length : Int) ≤ a2) = true := decide_eq_true c2
            have d3 : decide (a2 ≥ (l0.length : Int)) = true := decide_eq_true c2
            rw [if_pos (Or.inr c2)] at H
            simp only [Option.some.injEq, Prod.mk.injEq] at H
            obtain ⟨rfl, rfl, rfl⟩ := H
            go_wp2
            go_ret3
            exact ⟨_, rfl, Kd.R_nil _ _ _ _ _, HB.out⟩
          · have d2 : decide ((l0.length : Int) ≤ a2) = false := decide_eq_false c2
            have d3 : decide (a2 ≥ (l0.length : Int)) = false := decide_eq_false c2
            rw [if_neg (by intro h; rcases h with h | h <;> contradiction)] at H
            have p1 : 0 ≤ a2 := Int.not_lt.mp c1
            have q1 : a2 < (l0.length : Int) := Int.not_le.mp c2
            obtain ⟨ad0, e1, hx0, hx1, hx2, hx3, hx4, hx5⟩ := at_T36 HR0.out a2 p1 q1
            cases e1
            replace hx1 := (HB.out.cell (World.block_lt_of_cell? w _ hx1)).trans hx1
            have b3 : decide (0 ≤ a2) = true := decide_eq_true p1
            have b4 : decide (a2 < (l0.length : Int)) = true := decide_eq_true q1
            clear hx0 hx2 hx3 hx4 hx5
            by_cases c3 : (rd_T36 l0 a2).f1 ≠ 1
            · rw [if_pos c3] at H
              simp only [Option.some.injEq, Prod.mk.injEq] at H
              obtain ⟨rfl, rfl, rfl⟩ := H
              have d4 : ((rd_T36 l0 a2).f1 != 1) = true := bne_iff_ne.mpr c3
              go_wp2
              go_ret3
              exact ⟨_, rfl, Kd.R_nil _ _ _ _ _, HB.out⟩
            · rw [if_neg c3] at H
              have d4 : ((rd_T36 l0 a2).f1 != 1) = false := bne_eq_false_iff_eq.mpr (Decidable.not_not.mp c3)
              by_cases c4 : (∀ r ∈ l0, rowOk l1.length r)
              · rw [if_pos c4] at H
                simp only [Option.some.injEq, Prod.mk.injEq] at H
                obtain ⟨rfl, rfl, rfl⟩ := H
                have HO := Aside0.mk c4
                clear c4 c3
                go_wp2
                have hn0 : 0 < l1.length := by
                  have h1 := (HO.out _ (rdT_mem l0 a2 p1 q1)).1
                  omega
                have HN := Aside0.mk hn0
                clear hn0
                have HBW := Aside0.mk (below_drew1 HB.out)
                have hsz0 : w.heap.size ≤ wr.drew.heap.size := HBW.out.size
                refine start_ (n := 9) (S := fun _ => True) (ds := []) #[false, false, false, false, false, false, false, false, false] (by kernel_rfl) rfl rfl trivial (fun _ => ?_)
                refine pure_ (i := 1) (N := some 50) (v := ?_) (a' := ?_) #[false, true, false, false, false, false, false, false, false] rfl rfl (by kernel_rfl) (fun _ _ _ h => h) (Or.inl ⟨by rfl, ?_⟩) ?_ ?_
                rotate_left
                · intro w'
                  go_simp
                  with_reducible rfl
                rotate_left
                · simp only [Act.put, List.setIfInBounds_toArray, List.set_cons_zero, List.set_cons_succ, i64_w, i32_w]
                  rfl
                refine pure_ (i := 3) (N := some 52) (v := ?_) (a' := ?_) #[false, true, false, true, false, false, false, false, false] rfl rfl (by kernel_rfl) (fun _ _ _ h => h) (Or.inl ⟨by rfl, ?_⟩) ?_ ?_
                rotate_left
                · intro w'
                  go_simp
                  with_reducible rfl
                rotate_left
                · simp only [Act.put, List.setIfInBounds_toArray, List.set_cons_zero, List.set_cons_succ, i64_w, i32_w]
                  rfl
                refine pure_ (i := 4) (N := some 53) (v := ?_) (a' := ?_) #[false, true, false, true, true, false, false, false, false] rfl rfl (by kernel_rfl) (fun _ _ _ h => h) (Or.inl ⟨by rfl, ?_⟩) ?_ ?_
                rotate_left
                · intro w'
                  go_simp
                  with_reducible rfl
                rotate_left
                · simp only [Act.put, List.setIfInBounds_toArray, List.set_cons_zero, List.set_cons_succ, i64_w, i32_w]
                  rfl
                refine join_ (σ := Value × Value × Value) 3 #[true, true, true, true, true, true, false, false, false] (fun s => [(49, s.1), (51, s.2.1), (54, s.2.2)]) (fun s w' => Kd.R (Kd.int .i64) 2 w' w.heap.size (fun _ => True) s.2.1 l1 ∧ Kd.R (Kd.int .i64) 2 w' w.heap.size (fun _ => True) s.2.2 (List.replicate l1.length 0) ∧ NeRow s.2.1 s.2.2 ∧ Below w.heap.size w w') ?_ ?_
                rotate_left
                · intro hJ
                  have hb0 := HBW.out
                  refine two_ (i := 0) (j := 5) (Ni := some 49) (Nj := some 54) #[true, true, false, true, true, false, false, false, false] #[false, true, false, true, true, true, false, false, false] rfl rfl rfl rfl (by kernel_rfl) (by decide) (by decide) (fun K hK => ?_) (fun K hK => ?_)
                  · refine Kd.R_lit_step (Kd.int .i64) w.heap.size 2 (by rfl) (N := 49) rfl (xs := ([] : List Int)) (inner := []) (ok := fun _ => True) (okp := fun _ => True) (by go_simp) (Reps.none _ _) (fun _ h => h) trivial hb0 hb0.size (by simp) ?_
                    intro v0 w2 hv0 hb2 hg2 hn2
                    refine hK.out _ _ trivial (fun _ => ?_)
                    clear hK K
                    simp only [Act.put, List.setIfInBounds_toArray, List.set_cons_zero, List.set_cons_succ]
                    refine two_ (i := 2) (j := 5) (Ni := some 51) (Nj := some 54) #[true, true, true, true, true, false, false, false, false] #[true, true, false, true, true, true, false, false, false] rfl rfl rfl rfl (by kernel_rfl) (by decide) (by decide) (fun K hK => ?_) (fun K hK => ?_)
                    · refine Kd.R_append_rows_step (Kd.int .i64) w.heap.size (by rfl) _ _ 25 2 (.int .i64 0) 8 rfl Try.underlying25 info2 rfl (by decide) (by decide) v0 [] l1 A1 l1.length _ (fun _ => True) (fun _ => False) rfl rfl hv0 (Kd.C_below HR1.out hb2) (fun _ _ h => h) (fun _ h => h.elim) (fun _ _ => trivial) hb2 hb2.size (by have := HZ.out.1; simp; omega) ?_
                      intro v1 w3 hv1 hb3 hg3 hat3
                      rw [List.nil_append] at hv1
                      refine hK.out _ _ trivial (fun _ => ?_)
                      clear hK K
                      simp only [Act.put, List.setIfInBounds_toArray, List.set_cons_zero, List.set_cons_succ]
                      refine one_ (i := 5) (N := some 54) #[true, true, true, true, true, true, false, false, false] rfl rfl (by kernel_rfl) (by decide) (fun K hK => ?_)
                      refine Kd.R_make_step (Kd.int .i64) w.heap.size 2 (by rfl) (N := 54) rfl 25 _ _ rfl (l1.length : Int) rfl rfl Try.underlying25 (.int .i64 0) 8 info2 rfl (by decide) (by decide) 0 (ok := fun _ => True) (okp := fun _ => True) rfl (fun _ h => h) trivial (Int.natCast_nonneg _) (by have := HZ.out.1; omega) hb3 hb3.size ?_
                      intro v2 w4 hv2 hb4 hg4 hn4
                      rw [Int.toNat_natCast] at hv2
                      refine hK.out _ _ trivial (fun _ => ?_)
                      clear hK K
                      simp only [Act.put, List.setIfInBounds_toArray, List.set_cons_zero, List.set_cons_succ]
                      have hF := hJ (v0, v1, v2) w4 ⟨R_other hv1 (v := .slice none 0 0) hg4 (ne_nil _), hv2, ne_symm (ne_append (ne_nil v1) (.inr hn4) (Kd.own_of_R hv1)), hb4⟩
                      simp only [putAll, Act.put, List.setIfInBounds_toArray, List.set_cons_zero, List.set_cons_succ] at hF ⊢
                      exact hF
                    · refine Kd.R_make_step (Kd.int .i64) w.heap.size 2 (by rfl) (N := 54) rfl 25 _ _ rfl (l1.length : Int) rfl rfl Try.underlying25 (.int .i64 0) 8 info2 rfl (by decide) (by decide) 0 (ok := fun _ => True) (okp := fun _ => True) rfl (fun _ h => h) trivial (Int.natCast_nonneg _) (by have := HZ.out.1; omega) hb2 hb2.size ?_
                      intro v2 w3 hv2 hb3 hg3 hn3
                      rw [Int.toNat_natCast] at hv2
                      refine hK.out _ _ trivial (fun _ => ?_)
                      clear hK K
                      simp only [Act.put, List.setIfInBounds_toArray, List.set_cons_zero, List.set_cons_succ]
                      have hne0 := ne_append (ne_nil v0) (.inr hn3) (Kd.own_of_R hv0)
                      replace hv0 := R_other hv0 (v := .slice none 0 0) hg3 (ne_nil _)
                      refine one_ (i := 2) (N := some 51) #[true, true, true, true, true, true, false, false, false] rfl rfl (by kernel_rfl) (by decide) (fun K hK => ?_)
                      refine Kd.R_append_rows_step (Kd.int .i64) w.heap.size (by rfl) _ _ 25 2 (.int .i64 0) 8 rfl Try.underlying25 info2 rfl (by decide) (by decide) v0 [] l1 A1 l1.length _ (fun _ => True) (fun _ => False) rfl rfl hv0 (Kd.C_below HR1.out hb3) (fun _ _ h => h) (fun _ h => h.elim) (fun _ _ => trivial) hb3 hb3.size (by have := HZ.out.1; simp; omega) ?_
                      intro v1 w4 hv1 hb4 hg4 hat4
                      rw [List.nil_append] at hv1
                      refine hK.out _ _ trivial (fun _ => ?_)
                      clear hK K
                      simp only [Act.put, List.setIfInBounds_toArray, List.set_cons_zero, List.set_cons_succ]
                      have hF := hJ (v0, v1, v2) w4 ⟨hv1, R_other hv2 hg4 (ne_symm hne0), ne_append (ne_symm hne0) hat4 (Kd.own_of_R hv2), hb4⟩
                      simp only [putAll, Act.put, List.setIfInBounds_toArray, List.set_cons_zero, List.set_cons_succ] at hF ⊢
                      exact hF
                  · refine Kd.R_make_step (Kd.int .i64) w.heap.size 2 (by rfl) (N := 54) rfl 25 _ _ rfl (l1.length : Int) rfl rfl Try.underlying25 (.int .i64 0) 8 info2 rfl (by decide) (by decide) 0 (ok := fun _ => True) (okp := fun _ => True) rfl (fun _ h => h) trivial (Int.natCast_nonneg _) (by have := HZ.out.1; omega) hb0 hb0.size ?_
                    intro v2 w2 hv2 hb2 hg2 hn2
                    rw [Int.toNat_natCast] at hv2
                    refine hK.out _ _ trivial (fun _ => ?_)
                    clear hK K
                    simp only [Act.put, List.setIfInBounds_toArray, List.set_cons_zero, List.set_cons_succ]
                    refine one_ (i := 0) (N := some 49) #[true, true, false, true, true, true, false, false, false] rfl rfl (by kernel_rfl) (by decide) (fun K hK => ?_)
                    refine Kd.R_lit_step (Kd.int .i64) w.heap.size 2 (by rfl) (N := 49) rfl (xs := ([] : List Int)) (inner := []) (ok := fun _ => True) (okp := fun _ => True) (by go_simp) (Reps.none _ _) (fun _ h => h) trivial hb2 hb2.size (by simp) ?_
                    intro v0 w3 hv0 hb3 hg3 hn3
                    refine hK.out _ _ trivial (fun _ => ?_)
                    clear hK K
                    simp only [Act.put, List.setIfInBounds_toArray, List.set_cons_zero, List.set_cons_succ]
                    have hne0 := ne_append (ne_nil v2) (.inr hn3) (Kd.own_of_R hv2)
                    replace hv2 := R_other hv2 (v := .slice none 0 0) hg3 (ne_nil _)
                    refine one_ (i := 2) (N := some 51) #[true, true, true, true, true, true, false, false, false] rfl rfl (by kernel_rfl) (by decide) (fun K hK => ?_)
                    refine Kd.R_append_rows_step (Kd.int .i64) w.heap.size (by rfl) _ _ 25 2 (.int .i64 0) 8 rfl Try.underlying25 info2 rfl (by decide) (by decide) v0 [] l1 A1 l1.length _ (fun _ => True) (fun _ => False) rfl rfl hv0 (Kd.C_below HR1.out hb3) (fun _ _ h => h) (fun _ h => h.elim) (fun _ _ => trivial) hb3 hb3.size (by have := HZ.out.1; simp; omega) ?_
                    intro v1 w4 hv1 hb4 hg4 hat4
                    rw [List.nil_append] at hv1
                    refine hK.out _ _ trivial (fun _ => ?_)
                    clear hK K
                    simp only [Act.put, List.setIfInBounds_toArray, List.set_cons_zero, List.set_cons_succ]
                    have hF := hJ (v0, v1, v2) w4 ⟨hv1, R_other hv2 hg4 hne0, ne_append hne0 hat4 (Kd.own_of_R hv2), hb4⟩
                    simp only [putAll, Act.put, List.setIfInBounds_toArray, List.set_cons_zero, List.set_cons_succ] at hF ⊢
                    exact hF
                rintro ⟨v0, v1, v2⟩ w5 ⟨hv1, hv2, hne, hb5⟩
                obtain ⟨g1, cc1, rfl, gb1, gl1, _, _⟩ := Kd.R_form hv1 HN.out
                obtain ⟨g2, cc2, rfl, gb2, gl2, _, _⟩ := Kd.R_form hv2 (by rw [List.length_replicate]; exact HN.out)
                simp only [putAll, Act.put, List.setIfInBounds_toArray, List.set_cons_zero, List.set_cons_succ]
                refine pure_ (i := 6) (N := some 55) (v := ?_) (a' := ?_) #[true, true, true, true, true, true, true, false, false] rfl rfl (by kernel_rfl) (fun _ _ _ h => h) (Or.inl ⟨by rfl, ?_⟩) ?_ ?_
                rotate_left
                · intro w'
                  go_simp
                  with_reducible rfl
                rotate_left
                · simp only [Act.put, List.setIfInBounds_toArray, List.set_cons_zero, List.set_cons_succ, i64_w, i32_w]
                  rfl
                refine one_ (i := 7) (N := some 56) #[true, true, true, true, true, true, true, true, false] rfl rfl (by kernel_rfl) (by decide) (fun K hK => ?_)
                refine box_step (by rfl) (N := 56) rfl (cs := #[.slice (some ⟨g1, 0, none⟩) l1.length cc1, .slice (some ⟨g2, 0, none⟩) l1.length cc2, .int .i64 0]) (t := 49) ?_ ?_
                · go_simp
                intro gt hgt w6 hblk hb6
                have bt0 : w.heap.size ≤ gt := by rw [hgt]; exact hb5.size
                clear hgt
                refine hK.out _ _ trivial (fun _ => ?_)
                clear hK K
                simp only [Act.put, List.setIfInBounds_toArray, List.set_cons_zero, List.set_cons_succ]
                refine pure_ (i := 8) (N := some 12) (v := ?_) (a' := ?_) #[true, true, true, true, true, true, true, true, true] rfl rfl (by kernel_rfl) (fun _ _ _ h => h) (Or.inl ⟨by rfl, ?_⟩) ?_ ?_
                rotate_left
                · intro w'
                  go_simp
                  with_reducible rfl
                rotate_left
                · simp only [Act.put, List.setIfInBounds_toArray, List.set_cons_zero, List.set_cons_succ, i64_w, i32_w]
                  rfl
                refine done_ (by kernel_rfl) ?_
                have ST : Aside0 (St w6 w.heap.size gt g1 g2 l1.length cc1 cc2 l1 (List.replicate l1.length 0) 0) := by
                  refine ⟨hblk, Kd.own_of_R (Kd.R_below hv1 hb6), ?_, ?_, HN.out, ?_⟩
                  · have h1 := Kd.own_of_R (Kd.R_below hv2 hb6)
                    rw [List.length_replicate] at h1
                    exact h1
                  · intro e
                    exact hne g1 rfl (by rw [e]; rfl)
                  · exact bt0
                have n0_ := Aside0.mk (below_step hb5 hb6)
                have bt1 : w.heap.size ≤ g1 := gb1
                have bt2 : w.heap.size ≤ g2 := gb2
                clear HB HBW hsz0 hv1 hv2 hne hb5 hb6 hblk gb1 gl1 gb2 gl2
                have HB := n0_
                clear n0_ hx1 b3 b4 d4
                rw [List.length_replicate]
                go_wp2
                go_loopg [59] l0.length (fun kq v59 w' => ∃ i : Nat, Aside0 (kq = l0.length - i) ∧ Aside0 (i ≤ l0.length) ∧ v59 = .int .i64 (i : Int) ∧ Aside0 (St w' w.heap.size gt g1 g2 l1.length cc1 cc2 (foldF l1.length a2 l0 l1 i).1 (foldF l1.length a2 l0 l1 i).2.1 (foldF l1.length a2 l0 l1 i).2.2) ∧ Aside0 (Below w.heap.size w w'))
                case atStart => exact ⟨0, ⟨rfl⟩, ⟨Nat.zero_le _⟩, rfl, ST, HB⟩
                case round =>
                  clear HB ST
                  obtain ⟨i, HK, HI, rfl, ST, HB⟩ := hrel
                  by_cases hlt : i < l0.length
                  · have p1 : 0 ≤ (i : Int) := Int.natCast_nonneg _
                    have q1 : (i : Int) < (l0.length : Int) := Int.ofNat_lt.mpr hlt
                    obtain ⟨ad1, e1, hx0, hx1, hx2, hx3, hx4, hx5⟩ := at_T36 HR0.out (i : Int) p1 q1
                    cases e1
                    replace hx0 := (HB.out.cell (World.block_lt_of_cell? w _ hx0)).trans hx0
                    replace hx1 := (HB.out.cell (World.block_lt_of_cell? w _ hx1)).trans hx1
                    replace hx2 := (HB.out.cell (World.block_lt_of_cell? w _ hx2)).trans hx2
                    replace hx3 := (HB.out.cell (World.block_lt_of_cell? w _ hx3)).trans hx3
                    replace hx4 := (HB.out.cell (World.block_lt_of_cell? w _ hx4)).trans hx4
                    replace hx5 := (HB.out.cell (World.block_lt_of_cell? w _ hx5)).trans hx5
                    rw [Int.toNat_natCast] at hx0 hx1 hx2 hx3 hx4 hx5
                    have b1 : decide ((i : Int) < (l0.length : Int)) = true := decide_eq_true q1
                    have b2 : decide (i < l0.length) = true := decide_eq_true hlt
                    have hok := HO.out (rd_T36 l0 (i : Int)) (rdT_mem l0 i p1 q1)
                    have hstep := foldF_succ l1.length a2 l0 l1 i
                    unfold stepF at hstep
                    generalize foldF l1.length a2 l0 l1 i = C at *
                    obtain ⟨B, T, Lo⟩ := C
                    generalize rd_T36 l0 (i : Int) = R at *
                    obtain ⟨f0, f1, f2, f3, f4, f5⟩ := R
                    simp only at hstep hx0 hx1 hx2 hx3 hx4 hx5 ST
                    obtain ⟨⟨o1, o2, o3, o4, o5⟩, hk⟩ := hok
                    simp only at o1 o2 o3 o4 o5 hk
                    have HS := Aside0.mk hstep
                    clear hstep
                    replace p1 := eq_true p1
                    go_upto_if 66 with (first | ((with_reducible refine gate_dst (N := 14) rfl ?_); refine box_event ?hg (N := 14) ?hd (cs := #[.int .i64 (0 : Int), .int .i64 (0 : Int), .int .i64 (0 : Int), .int .i64 (0 : Int), .int .i64 (0 : Int), .int .i64 (0 : Int)]) (t := 36) ?hr ?_; (case hd => rfl); (case hg => rfl); (case hr => first | (go_simp; done) | (go_simp; rfl)); intro gb hgb w18 hbox hb; have n0_ := Aside0.mk (ST.out.below hb); have n1_ := Aside0.mk hbox; have n2_ := Aside0.mk (below_step HB.out hb); have ne0 : gb ≠ gt := (by have h1 := blk_lt ST.out.blk; rw [hgb]; omega); have ne1 : gb ≠ g1 := (by have h1 := own_lt ST.out.ob g1 rfl; rw [hgb]; omega); have ne2 : gb ≠ g2 := (by have h1 := own_lt ST.out.ot g2 rfl; rw [hgb]; omega); have bt3 : w.heap.size ≤ gb := (by rw [hgb]; exact HB.out.size); clear ST HB hbox hb hgb; have ST := n0_; have BK := n1_; have HB := n2_; clear n0_ n1_ n2_; have z0 := (blk_cell BK.out 0).trans rfl; have z1 := (blk_cell BK.out 1).trans rfl; have z2 := (blk_cell BK.out 2).trans rfl; have z3 := (blk_cell BK.out 3).trans rfl; have z4 := (blk_cell BK.out 4).trans rfl; have z5 := (blk_cell BK.out 5).trans rfl; have y0 := blk_frozen BK.out 0; have y1 := blk_frozen BK.out 1; have y2 := blk_frozen BK.out 2; have y3 := blk_frozen BK.out 3; have y4 := blk_frozen BK.out 4; have y5 := blk_frozen BK.out 5))
                    (try simp only [Act.put, List.setIfInBounds_toArray, List.set_cons_zero, List.set_cons_succ])
                    clear z0 z1 z2 z3 z4 z5 y0 y1 y2 y3 y4 y5 hx0 hx1 hx2 hx3 hx4 hx5
                    have n0_ : Aside0 (St ((((((w18.setCell ⟨gb, 0, none⟩ (.int .i64 f0)).setCell ⟨gb, 1, none⟩ (.int .i64 f1)).setCell ⟨gb, 2, none⟩ (.int .i64 f2)).setCell ⟨gb, 3, none⟩ (.int .i64 f3)).setCell ⟨gb, 4, none⟩ (.int .i64 f4)).setCell ⟨gb, 5, none⟩ (.int .i64 f5)) w.heap.size gt g1 g2 l1.length cc1 cc2 B T Lo) := ⟨(St.far (St.far (St.far (St.far (St.far (St.far ST.out (p := ⟨gb, 0, none⟩) ne0 ne1 ne2 (.int .i64 f0)) (p := ⟨gb, 1, none⟩) ne0 ne1 ne2 (.int .i64 f1)) (p := ⟨gb, 2, none⟩) ne0 ne1 ne2 (.int .i64 f2)) (p := ⟨gb, 3, none⟩) ne0 ne1 ne2 (.int .i64 f3)) (p := ⟨gb, 4, none⟩) ne0 ne1 ne2 (.int .i64 f4)) (p := ⟨gb, 5, none⟩) ne0 ne1 ne2 (.int .i64 f5))⟩
                    have n1_ : Aside0 (((((((w18.setCell ⟨gb, 0, none⟩ (.int .i64 f0)).setCell ⟨gb, 1, none⟩ (.int .i64 f1)).setCell ⟨gb, 2, none⟩ (.int .i64 f2)).setCell ⟨gb, 3, none⟩ (.int .i64 f3)).setCell ⟨gb, 4, none⟩ (.int .i64 f4)).setCell ⟨gb, 5, none⟩ (.int .i64 f5)).heap[gb]? = some (.cells #[.int .i64 f0, .int .i64 f1, .int .i64 f2, .int .i64 f3, .int .i64 f4, .int .i64 f5] 36 (0, 0))) := ⟨(blk_put (blk_put (blk_put (blk_put (blk_put (blk_put BK.out 0 (.int .i64 f0) rfl) 1 (.int .i64 f1) rfl) 2 (.int .i64 f2) rfl) 3 (.int .i64 f3) rfl) 4 (.int .i64 f4) rfl) 5 (.int .i64 f5) rfl)⟩
                    have n2_ : Aside0 (Below w.heap.size w ((((((w18.setCell ⟨gb, 0, none⟩ (.int .i64 f0)).setCell ⟨gb, 1, none⟩ (.int .i64 f1)).setCell ⟨gb, 2, none⟩ (.int .i64 f2)).setCell ⟨gb, 3, none⟩ (.int .i64 f3)).setCell ⟨gb, 4, none⟩ (.int .i64 f4)).setCell ⟨gb, 5, none⟩ (.int .i64 f5))) := ⟨(below_set (below_set (below_set (below_set (below_set (below_set HB.out bt3) bt3) bt3) bt3) bt3) bt3)⟩
                    clear ST BK HB
                    generalize ((((((w18.setCell ⟨gb, 0, none⟩ (.int .i64 f0)).setCell ⟨gb, 1, none⟩ (.int .i64 f1)).setCell ⟨gb, 2, none⟩ (.int .i64 f2)).setCell ⟨gb, 3, none⟩ (.int .i64 f3)).setCell ⟨gb, 4, none⟩ (.int .i64 f4)).setCell ⟨gb, 5, none⟩ (.int .i64 f5)) = w19 at n0_ n1_ n2_ ⊢
                    have ST := n0_
                    have BK := n1_
                    have HB := n2_
                    clear n0_ n1_ n2_
                    have z0 : w19.cell? ⟨gb, 0, none⟩ = some (.int .i64 f0) := (blk_cell BK.out 0).trans rfl
                    have z1 : w19.cell? ⟨gb, 1, none⟩ = some (.int .i64 f1) := (blk_cell BK.out 1).trans rfl
                    have z2 : w19.cell? ⟨gb, 2, none⟩ = some (.int .i64 f2) := (blk_cell BK.out 2).trans rfl
                    have z3 : w19.cell? ⟨gb, 3, none⟩ = some (.int .i64 f3) := (blk_cell BK.out 3).trans rfl
                    have z4 : w19.cell? ⟨gb, 4, none⟩ = some (.int .i64 f4) := (blk_cell BK.out 4).trans rfl
                    have z5 : w19.cell? ⟨gb, 5, none⟩ = some (.int .i64 f5) := (blk_cell BK.out 5).trans rfl
                    have hz : l0.length ≤ 1000000 := HZ.out.2
                    rcases Int.lt_trichotomy (i : Int) a2 with hc | hc | hc
                    · have g0 : ((i : Int) == a2) = false := beq_eq_false_iff_ne.mpr (Int.ne_of_lt hc)
                      have g1' : decide ((i : Int) > a2) = false := decide_eq_false (by omega)
                      have g2' : decide (a2 < (i : Int)) = false := decide_eq_false (by omega)
                      have g3' : decide ((i : Int) ≥ a2) = false := decide_eq_false (by omega)
                      have g4' : decide (a2 ≤ (i : Int)) = false := decide_eq_false (by omega)
                      have HF : Aside0 (foldF l1.length a2 l0 l1 (i + 1) = (mvF f1 f2 f3 f4 B 2, T, Lo)) := ⟨by rw [HS.out]; unfold rowF; simp only [if_neg (show ¬ ((i : Int) = a2) by omega), if_neg (show ¬ (a2 < (i : Int) ∧ f1 ≠ 2) by omega), if_neg (show ¬ (a2 ≤ (i : Int)) by omega)]⟩
                      clear HS hk
                      go_wp2_with (first | ((with_reducible refine gate_callee (f := 20) rfl ?_); refine goesL_ (some 89) rfl rfl Try.func20 (by kernel_rfl) rfl #[.pointer (some ⟨gt, 0, none⟩), .agg #[.int .i64 f0, .int .i64 f1, .int .i64 f2, .int .i64 f3, .int .i64 f4, .int .i64 f5]] rfl (by (try simp only [List.map_toArray, List.map_cons, List.map_nil]); first | done | rfl) ?_; refine Calls.mono (Tr.move _ ST.out f0 f1 f2 f3 f4 f5 o1 o2 o3 o4) ?_; rintro e w21 ⟨rfl, st5, kp5⟩; refine ⟨_, rfl, ?_⟩; have n0_ := Aside0.mk st5; have n1_ := Aside0.mk (kp5.heap BK.out ne0 ne1 ne2); have n2_ := Aside0.mk (kp5.back HB.out bt0 bt1 bt2); clear ST BK HB st5 kp5; (try clear z0 z1 z2 z3 z4 z5); have ST := n0_; have BK := n1_; have HB := n2_; clear n0_ n1_ n2_; have z0 : w21.cell? ⟨gb, 0, none⟩ = some (.int .i64 f0) := (blk_cell BK.out 0).trans rfl; have z1 : w21.cell? ⟨gb, 1, none⟩ = some (.int .i64 f1) := (blk_cell BK.out 1).trans rfl; have z2 : w21.cell? ⟨gb, 2, none⟩ = some (.int .i64 f2) := (blk_cell BK.out 2).trans rfl; have z3 : w21.cell? ⟨gb, 3, none⟩ = some (.int .i64 f3) := (blk_cell BK.out 3).trans rfl; have z4 : w21.cell? ⟨gb, 4, none⟩ = some (.int .i64 f4) := (blk_cell BK.out 4).trans rfl; have z5 : w21.cell? ⟨gb, 5, none⟩ = some (.int .i64 f5) := (blk_cell BK.out 5).trans rfl; skip))
                      go_roundg (l0.length - (i + 1))
                      case measure => have := HK.out; omega
                      case rel => exact ⟨i + 1, ⟨rfl⟩, ⟨hlt⟩, by go_num, ⟨by rw [HF.out]; exact ST.out⟩, HB⟩
                    · subst hc
                      have g0 : ((i : Int) == (i : Int)) = true := beq_self_eq_true _
                      have g1' : decide ((i : Int) > (i : Int)) = false := decide_eq_false (by omega)
                      have g2' : decide ((i : Int) < (i : Int)) = false := decide_eq_false (by omega)
                      have g3' : decide ((i : Int) ≥ (i : Int)) = true := decide_eq_true (by omega)
                      have g4' : decide ((i : Int) ≤ (i : Int)) = true := decide_eq_true (by omega)
                      have HF : Aside0 (foldF l1.length (i : Int) l0 l1 (i + 1) = (mvF f1 f2 f3 f4 B 2, clipF (mvF f1 f2 f3 f4 B 2) (T.set f3.toNat f4) Lo l1.length)) := ⟨by rw [HS.out]; unfold rowF; simp only [if_pos (show ((i : Int) = (i : Int)) from rfl), reduceIte, if_neg (show ¬ ((i : Int) < (i : Int) ∧ f1 ≠ 2) by omega), if_pos (show (i : Int) ≤ (i : Int) by omega)]⟩
                      clear HS hk
                      have x1 : w19.drew.cell? ⟨gt, 1, none⟩ = some (.slice (some ⟨g2, 0, none⟩) l1.length cc2) := (blk_cell ST.out.blk 1).trans rfl
                      obtain ⟨y3, v3⟩ := own_at (St.below ST.out (pw_below_drewN (Below.refl _ _) 1) : St w19.drew w.heap.size gt g1 g2 l1.length cc1 cc2 B T Lo).ot f3 o3 o4
                      have b3 : decide (0 ≤ f3) = true := decide_eq_true o3
                      have b4 : decide (f3 < (l1.length : Int)) = true := decide_eq_true o4
                      have HSt : Aside0 (St ((w19.setCell ⟨g2, f3.toNat, none⟩ (.int .i64 f4)).drew) w.heap.size gt g1 g2 l1.length cc1 cc2 B (T.set f3.toNat f4) Lo) := ⟨(St.setT ST.out f3 f4).below (pw_below_drewN (Below.refl _ _) 1)⟩
                      have HBk : Aside0 (((w19.setCell ⟨g2, f3.toNat, none⟩ (.int .i64 f4)).drew).heap[gb]? = some (.cells #[.int .i64 f0, .int .i64 f1, .int .i64 f2, .int .i64 f3, .int .i64 f4, .int .i64 f5] 36 (0, 0))) := ⟨show (w19.setCell ⟨g2, f3.toNat, none⟩ (.int .i64 f4)).heap[gb]? = _ from blk_far BK.out ne2 _⟩
                      have HBb : Aside0 (Below w.heap.size w ((w19.setCell ⟨g2, f3.toNat, none⟩ (.int .i64 f4)).drew)) := ⟨pw_below_drewN (below_set HB.out bt2) 1⟩
                      go_wp2
                      refine start_ (n := 10) (S := fun w' => w'.cell? ⟨gt, 1, none⟩ = some (.slice (some ⟨g2, 0, none⟩) l1.length cc2) ∧ w'.cell? ⟨gb, 3, none⟩ = some (.int .i64 f3) ∧ w'.cell? ⟨gb, 4, none⟩ = some (.int .i64 f4)) (ds := [9]) #[false, false, false, false, false, false, false, false, false, false] (by kernel_rfl) rfl rfl ⟨x1, z3, z4⟩ (fun hHeld => ?_)
                      refine pure_ (i := 0) (N := some 67) (v := ?_) (a' := ?_) #[true, false, false, false, false, false, false, false, false, false] rfl rfl (by kernel_rfl) (fun _ _ _ h => h) (Or.inl ⟨by rfl, ?_⟩) ?_ ?_
                      rotate_left
                      · intro w'
                        go_simp
                        with_reducible rfl
                      rotate_left
                      · simp only [Act.put, List.setIfInBounds_toArray, List.set_cons_zero, List.set_cons_succ, i64_w, i32_w]
                        rfl
                      refine pure_ (i := 1) (N := some 68) (v := ?_) (a' := ?_) #[true, true, false, false, false, false, false, false, false, false] rfl rfl (by kernel_rfl) (fun _ _ _ h => h) (Or.inl ⟨by rfl, ?_⟩) ?_ ?_
                      rotate_left
                      · intro w'
                        go_simp
                        with_reducible rfl
                      rotate_left
                      · simp only [Act.put, List.setIfInBounds_toArray, List.set_cons_zero, List.set_cons_succ, i64_w, i32_w]
                        rfl
                      refine pure_ (i := 2) (N := some 69) (v := ?_) (a' := ?_) #[true, true, true, false, false, false, false, false, false, false] rfl rfl (by kernel_rfl) (fun _ _ _ h => h) (Or.inl ⟨by rfl, ?_⟩) ?_ ?_
                      rotate_left
                      · intro w'
                        go_simp
                        with_reducible rfl
                      rotate_left
                      · simp only [Act.put, List.setIfInBounds_toArray, List.set_cons_zero, List.set_cons_succ, i64_w, i32_w]
                        rfl
                      refine pure_ (i := 4) (N := some 71) (v := ?_) (a' := ?_) #[true, true, true, false, true, false, false, false, false, false] rfl rfl (by kernel_rfl) (fun _ _ _ h => h) (Or.inl ⟨by rfl, ?_⟩) ?_ ?_
                      rotate_left
                      · intro w'
                        go_simp
                        with_reducible rfl
                      rotate_left
                      · simp only [Act.put, List.setIfInBounds_toArray, List.set_cons_zero, List.set_cons_succ, i64_w, i32_w]
                        rfl
                      refine pure_ (i := 6) (N := some 73) (v := ?_) (a' := ?_) #[true, true, true, false, true, false, true, false, false, false] rfl rfl (by kernel_rfl) (fun _ _ _ h => h) (Or.inl ⟨by rfl, ?_⟩) ?_ ?_
                      rotate_left
                      · intro w'
                        go_simp
                        with_reducible rfl
                      rotate_left
                      · simp only [Act.put, List.setIfInBounds_toArray, List.set_cons_zero, List.set_cons_succ, i64_w, i32_w]
                        rfl
                      refine take_ (i := 3) (N := some 70) (v := ?_) (a' := ?_) #[true, true, true, true, true, false, true, false, false, false] rfl rfl (by kernel_rfl) (fun _ _ _ h => h) (Or.inl ⟨by rfl, ?_⟩) hHeld ?_ ?_
                      rotate_left
                      · rintro w' ⟨s0, s1, s2⟩
                        go_simp
                        with_reducible rfl
                      rotate_left
                      · simp only [Act.put, List.setIfInBounds_toArray, List.set_cons_zero, List.set_cons_succ, i64_w, i32_w]
                        rfl
                      refine take_ (i := 5) (N := some 72) (v := ?_) (a' := ?_) #[true, true, true, true, true, true, true, false, false, false] rfl rfl (by kernel_rfl) (fun _ _ _ h => h) (Or.inl ⟨by rfl, ?_⟩) hHeld ?_ ?_
                      rotate_left
                      · rintro w' ⟨s0, s1, s2⟩
                        go_simp
                        with_reducible rfl
                      rotate_left
                      · simp only [Act.put, List.setIfInBounds_toArray, List.set_cons_zero, List.set_cons_succ, i64_w, i32_w]
                        rfl
                      refine take_ (i := 7) (N := some 74) (v := ?_) (a' := ?_) #[true, true, true, true, true, true, true, true, false, false] rfl rfl (by kernel_rfl) (fun _ _ _ h => h) (Or.inl ⟨by rfl, ?_⟩) hHeld ?_ ?_
                      rotate_left
                      · rintro w' ⟨s0, s1, s2⟩
                        go_simp
                        with_reducible rfl
                      rotate_left
                      · simp only [Act.put, List.setIfInBounds_toArray, List.set_cons_zero, List.set_cons_succ, i64_w, i32_w]
                        rfl
                      refine pure_ (i := 8) (N := some 75) (v := ?_) (a' := ?_) #[true, true, true, true, true, true, true, true, true, false] rfl rfl (by kernel_rfl) (fun _ _ _ h => h) (Or.inl ⟨by rfl, ?_⟩) ?_ ?_
                      rotate_left
                      · intro w'
                        go_simp
                        with_reducible rfl
                      rotate_left
                      · simp only [Act.put, List.setIfInBounds_toArray, List.set_cons_zero, List.set_cons_succ, i64_w, i32_w]
                        rfl
                      refine last_ (i := 9) (N := none) #[true, true, true, true, true, true, true, true, true, true] rfl rfl (by kernel_rfl) (by decide) (fun K hK => ?_)
                      refine skip_ (w1 := ?_) (by rfl) rfl ?_ ?_
                      rotate_left
                      · go_simp
                        rfl
                      refine hK.out _ _ ?_
                      clear hK K hHeld
                      refine done_ (by kernel_rfl) ?_
                      generalize World.drew (World.setCell w19 ⟨g2, f3.toNat, none⟩ (.int .i64 f4)) = w20 at HSt HBk HBb ⊢
                      clear ST BK HB z0 z1 z2 z3 z4 z5 x1 y3 v3
                      have ST : Aside0 (St w20 w.heap.size gt g1 g2 l1.length cc1 cc2 B (T.set f3.toNat f4) Lo) := HSt
                      have BK : Aside0 (w20.heap[gb]? = some (.cells #[.int .i64 f0, .int .i64 f1, .int .i64 f2, .int .i64 f3, .int .i64 f4, .int .i64 f5] 36 (0, 0))) := HBk
                      have HB : Aside0 (Below w.heap.size w w20) := HBb
                      clear HSt HBk HBb
                      have z0 : w20.cell? ⟨gb, 0, none⟩ = some (.int .i64 f0) := (blk_cell BK.out 0).trans rfl
                      have z1 : w20.cell? ⟨gb, 1, none⟩ = some (.int .i64 f1) := (blk_cell BK.out 1).trans rfl
                      have z2 : w20.cell? ⟨gb, 2, none⟩ = some (.int .i64 f2) := (blk_cell BK.out 2).trans rfl
                      have z3 : w20.cell? ⟨gb, 3, none⟩ = some (.int .i64 f3) := (blk_cell BK.out 3).trans rfl
                      have z4 : w20.cell? ⟨gb, 4, none⟩ = some (.int .i64 f4) := (blk_cell BK.out 4).trans rfl
                      have z5 : w20.cell? ⟨gb, 5, none⟩ = some (.int .i64 f5) := (blk_cell BK.out 5).trans rfl
                      go_wp2_with (first | ((with_reducible refine gate_callee (f := 20) rfl ?_); refine goesL_ (some 89) rfl rfl Try.func20 (by kernel_rfl) rfl #[.pointer (some ⟨gt, 0, none⟩), .agg #[.int .i64 f0, .int .i64 f1, .int .i64 f2, .int .i64 f3, .int .i64 f4, .int .i64 f5]] rfl (by (try simp only [List.map_toArray, List.map_cons, List.map_nil]); first | done | rfl) ?_; refine Calls.mono (Tr.move _ ST.out f0 f1 f2 f3 f4 f5 o1 o2 o3 o4) ?_; rintro e w21 ⟨rfl, st5, kp5⟩; refine ⟨_, rfl, ?_⟩; have n0_ := Aside0.mk st5; have n1_ := Aside0.mk (kp5.heap BK.out ne0 ne1 ne2); have n2_ := Aside0.mk (kp5.back HB.out bt0 bt1 bt2); clear ST BK HB st5 kp5; (try clear z0 z1 z2 z3 z4 z5); have ST := n0_; have BK := n1_; have HB := n2_; clear n0_ n1_ n2_; have z0 : w21.cell? ⟨gb, 0, none⟩ = some (.int .i64 f0) := (blk_cell BK.out 0).trans rfl; have z1 : w21.cell? ⟨gb, 1, none⟩ = some (.int .i64 f1) := (blk_cell BK.out 1).trans rfl; have z2 : w21.cell? ⟨gb, 2, none⟩ = some (.int .i64 f2) := (blk_cell BK.out 2).trans rfl; have z3 : w21.cell? ⟨gb, 3, none⟩ = some (.int .i64 f3) := (blk_cell BK.out 3).trans rfl; have z4 : w21.cell? ⟨gb, 4, none⟩ = some (.int .i64 f4) := (blk_cell BK.out 4).trans rfl; have z5 : w21.cell? ⟨gb, 5, none⟩ = some (.int .i64 f5) := (blk_cell BK.out 5).trans rfl; skip) | ((with_reducible refine gate_callee (f := 21) rfl ?_); refine goesL_ (some 94) rfl rfl Try.func21 (by kernel_rfl) rfl #[.pointer (some ⟨gt, 0, none⟩)] rfl (by (try simp only [List.map_toArray, List.map_cons, List.map_nil]); first | done | rfl) ?_; refine Calls.mono (Tr.clip _ ST.out (by have := HZ.out.1; omega)) ?_; rintro e w22 ⟨rfl, st5, kp5⟩; refine ⟨_, rfl, ?_⟩; have n0_ := Aside0.mk st5; have n1_ := Aside0.mk (kp5.heap BK.out ne0 ne1 ne2); have n2_ := Aside0.mk (kp5.back HB.out bt0 bt1 bt2); clear ST BK HB st5 kp5; (try clear z0 z1 z2 z3 z4 z5); have ST := n0_; have BK := n1_; have HB := n2_; clear n0_ n1_ n2_; have z0 : w22.cell? ⟨gb, 0, none⟩ = some (.int .i64 f0) := (blk_cell BK.out 0).trans rfl; have z1 : w22.cell? ⟨gb, 1, none⟩ = some (.int .i64 f1) := (blk_cell BK.out 1).trans rfl; have z2 : w22.cell? ⟨gb, 2, none⟩ = some (.int .i64 f2) := (blk_cell BK.out 2).trans rfl; have z3 : w22.cell? ⟨gb, 3, none⟩ = some (.int .i64 f3) := (blk_cell BK.out 3).trans rfl; have z4 : w22.cell? ⟨gb, 4, none⟩ = some (.int .i64 f4) := (blk_cell BK.out 4).trans rfl; have z5 : w22.cell? ⟨gb, 5, none⟩ = some (.int .i64 f5) := (blk_cell BK.out 5).trans rfl; skip))
                      go_roundg (l0.length - (i + 1))
                      case measure => have := HK.out; omega
                      case rel => exact ⟨i + 1, ⟨rfl⟩, ⟨hlt⟩, by go_num, ⟨by rw [HF.out]; exact ST.out⟩, HB⟩
                    · have g0 : ((i : Int) == a2) = false := beq_eq_false_iff_ne.mpr (Int.ne_of_gt hc)
                      have g1' : decide ((i : Int) > a2) = true := decide_eq_true hc
                      have g2' : decide (a2 < (i : Int)) = true := decide_eq_true hc
                      have g3' : decide ((i : Int) ≥ a2) = true := decide_eq_true (by omega)
                      have g4' : decide (a2 ≤ (i : Int)) = true := decide_eq_true (by omega)
                      rcases hk with rfl | rfl | rfl
                      · have HF : Aside0 (foldF l1.length a2 l0 l1 (i + 1) = (mvF 1 f2 f3 f4 B 2, clipF (mvF 1 f2 f3 f4 B 2) ((T.set f2.toNat (wrap64 (rd T f2 - taken B T f2 f4))).set f3.toNat (wrap64 (rd T f3 + taken B T f2 f4))) Lo l1.length)) := ⟨by rw [HS.out]; unfold rowF spF; simp only [if_neg (show ¬ ((i : Int) = a2) by omega), if_pos (show a2 < (i : Int) ∧ (1 : Int) ≠ 2 from ⟨hc, by decide⟩), if_pos (show (1 : Int) = 1 from rfl), reduceIte, if_pos (show a2 ≤ (i : Int) by omega)]⟩
                        clear HS
                        go_wp2_with (first | ((with_reducible refine gate_callee (f := 19) rfl ?_); refine goesL_ (some 86) rfl rfl Try.func19 (by kernel_rfl) rfl #[.pointer (some ⟨gt, 0, none⟩), .agg #[.int .i64 f0, .int .i64 1, .int .i64 f2, .int .i64 f3, .int .i64 f4, .int .i64 f5]] rfl (by (try simp only [List.map_toArray, List.map_cons, List.map_nil]); first | done | rfl) ?_; refine Calls.mono (spend1 _ ST.out f0 f2 f3 f4 f5 o1 o2 o3 o4 o5) ?_; rintro e w20 ⟨rfl, st5, kp5⟩; refine ⟨_, rfl, ?_⟩; have n0_ := Aside0.mk st5; have n1_ := Aside0.mk (kp5.heap BK.out ne0 ne1 ne2); have n2_ := Aside0.mk (kp5.back HB.out bt0 bt1 bt2); clear ST BK HB st5 kp5; (try clear z0 z1 z2 z3 z4 z5); have ST := n0_; have BK := n1_; have HB := n2_; clear n0_ n1_ n2_; have z0 : w20.cell? ⟨gb, 0, none⟩ = some (.int .i64 f0) := (blk_cell BK.out 0).trans rfl; have z1 : w20.cell? ⟨gb, 1, none⟩ = some (.int .i64 1) := (blk_cell BK.out 1).trans rfl; have z2 : w20.cell? ⟨gb, 2, none⟩ = some (.int .i64 f2) := (blk_cell BK.out 2).trans rfl; have z3 : w20.cell? ⟨gb, 3, none⟩ = some (.int .i64 f3) := (blk_cell BK.out 3).trans rfl; have z4 : w20.cell? ⟨gb, 4, none⟩ = some (.int .i64 f4) := (blk_cell BK.out 4).trans rfl; have z5 : w20.cell? ⟨gb, 5, none⟩ = some (.int .i64 f5) := (blk_cell BK.out 5).trans rfl; skip) | ((with_reducible refine gate_callee (f := 20) rfl ?_); refine goesL_ (some 89) rfl rfl Try.func20 (by kernel_rfl) rfl #[.pointer (some ⟨gt, 0, none⟩), .agg #[.int .i64 f0, .int .i64 1, .int .i64 f2, .int .i64 f3, .int .i64 f4, .int .i64 f5]] rfl (by (try simp only [List.map_toArray, List.map_cons, List.map_nil]); first | done | rfl) ?_; refine Calls.mono (Tr.move _ ST.out f0 1 f2 f3 f4 f5 o1 o2 o3 o4) ?_; rintro e w21 ⟨rfl, st5, kp5⟩; refine ⟨_, rfl, ?_⟩; have n0_ := Aside0.mk st5; have n1_ := Aside0.mk (kp5.heap BK.out ne0 ne1 ne2); have n2_ := Aside0.mk (kp5.back HB.out bt0 bt1 bt2); clear ST BK HB st5 kp5; (try clear z0 z1 z2 z3 z4 z5); have ST := n0_; have BK := n1_; have HB := n2_; clear n0_ n1_ n2_; have z0 : w21.cell? ⟨gb, 0, none⟩ = some (.int .i64 f0) := (blk_cell BK.out 0).trans rfl; have z1 : w21.cell? ⟨gb, 1, none⟩ = some (.int .i64 1) := (blk_cell BK.out 1).trans rfl; have z2 : w21.cell? ⟨gb, 2, none⟩ = some (.int .i64 f2) := (blk_cell BK.out 2).trans rfl; have z3 : w21.cell? ⟨gb, 3, none⟩ = some (.int .i64 f3) := (blk_cell BK.out 3).trans rfl; have z4 : w21.cell? ⟨gb, 4, none⟩ = some (.int .i64 f4) := (blk_cell BK.out 4).trans rfl; have z5 : w21.cell? ⟨gb, 5, none⟩ = some (.int .i64 f5) := (blk_cell BK.out 5).trans rfl; skip) | ((with_reducible refine gate_callee (f := 21) rfl ?_); refine goesL_ (some 94) rfl rfl Try.func21 (by kernel_rfl) rfl #[.pointer (some ⟨gt, 0, none⟩)] rfl (by (try simp only [List.map_toArray, List.map_cons, List.map_nil]); first | done | rfl) ?_; refine Calls.mono (Tr.clip _ ST.out (by have := HZ.out.1; omega)) ?_; rintro e w22 ⟨rfl, st5, kp5⟩; refine ⟨_, rfl, ?_⟩; have n0_ := Aside0.mk st5; have n1_ := Aside0.mk (kp5.heap BK.out ne0 ne1 ne2); have n2_ := Aside0.mk (kp5.back HB.out bt0 bt1 bt2); clear ST BK HB st5 kp5; (try clear z0 z1 z2 z3 z4 z5); have ST := n0_; have BK := n1_; have HB := n2_; clear n0_ n1_ n2_; have z0 : w22.cell? ⟨gb, 0, none⟩ = some (.int .i64 f0) := (blk_cell BK.out 0).trans rfl; have z1 : w22.cell? ⟨gb, 1, none⟩ = some (.int .i64 1) := (blk_cell BK.out 1).trans rfl; have z2 : w22.cell? ⟨gb, 2, none⟩ = some (.int .i64 f2) := (blk_cell BK.out 2).trans rfl; have z3 : w22.cell? ⟨gb, 3, none⟩ = some (.int .i64 f3) := (blk_cell BK.out 3).trans rfl; have z4 : w22.cell? ⟨gb, 4, none⟩ = some (.int .i64 f4) := (blk_cell BK.out 4).trans rfl; have z5 : w22.cell? ⟨gb, 5, none⟩ = some (.int .i64 f5) := (blk_cell BK.out 5).trans rfl; skip))
                        go_roundg (l0.length - (i + 1))
                        case measure => have := HK.out; omega
                        case rel => exact ⟨i + 1, ⟨rfl⟩, ⟨hlt⟩, by go_num, ⟨by rw [HF.out]; exact ST.out⟩, HB⟩
                      · have HF : Aside0 (foldF l1.length a2 l0 l1 (i + 1) = (mvF 2 f2 f3 f4 B 2, clipF (mvF 2 f2 f3 f4 B 2) T Lo l1.length)) := ⟨by rw [HS.out]; unfold rowF spF; simp only [if_neg (show ¬ ((i : Int) = a2) by omega), if_neg (show ¬ (a2 < (i : Int) ∧ (2 : Int) ≠ 2) from fun h => h.2 rfl), if_pos (show a2 ≤ (i : Int) by omega)]⟩
                        clear HS
                        go_wp2_with (first | ((with_reducible refine gate_callee (f := 20) rfl ?_); refine goesL_ (some 89) rfl rfl Try.func20 (by kernel_rfl) rfl #[.pointer (some ⟨gt, 0, none⟩), .agg #[.int .i64 f0, .int .i64 2, .int .i64 f2, .int .i64 f3, .int .i64 f4, .int .i64 f5]] rfl (by (try simp only [List.map_toArray, List.map_cons, List.map_nil]); first | done | rfl) ?_; refine Calls.mono (Tr.move _ ST.out f0 2 f2 f3 f4 f5 o1 o2 o3 o4) ?_; rintro e w21 ⟨rfl, st5, kp5⟩; refine ⟨_, rfl, ?_⟩; have n0_ := Aside0.mk st5; have n1_ := Aside0.mk (kp5.heap BK.out ne0 ne1 ne2); have n2_ := Aside0.mk (kp5.back HB.out bt0 bt1 bt2); clear ST BK HB st5 kp5; (try clear z0 z1 z2 z3 z4 z5); have ST := n0_; have BK := n1_; have HB := n2_; clear n0_ n1_ n2_; have z0 : w21.cell? ⟨gb, 0, none⟩ = some (.int .i64 f0) := (blk_cell BK.out 0).trans rfl; have z1 : w21.cell? ⟨gb, 1, none⟩ = some (.int .i64 2) := (blk_cell BK.out 1).trans rfl; have z2 : w21.cell? ⟨gb, 2, none⟩ = some (.int .i64 f2) := (blk_cell BK.out 2).trans rfl; have z3 : w21.cell? ⟨gb, 3, none⟩ = some (.int .i64 f3) := (blk_cell BK.out 3).trans rfl; have z4 : w21.cell? ⟨gb, 4, none⟩ = some (.int .i64 f4) := (blk_cell BK.out 4).trans rfl; have z5 : w21.cell? ⟨gb, 5, none⟩ = some (.int .i64 f5) := (blk_cell BK.out 5).trans rfl; skip) | ((with_reducible refine gate_callee (f := 21) rfl ?_); refine goesL_ (some 94) rfl rfl Try.func21 (by kernel_rfl) rfl #[.pointer (some ⟨gt, 0, none⟩)] rfl (by (try simp only [List.map_toArray, List.map_cons, List.map_nil]); first | done | rfl) ?_; refine Calls.mono (Tr.clip _ ST.out (by have := HZ.out.1; omega)) ?_; rintro e w22 ⟨rfl, st5, kp5⟩; refine ⟨_, rfl, ?_⟩; have n0_ := Aside0.mk st5; have n1_ := Aside0.mk (kp5.heap BK.out ne0 ne1 ne2); have n2_ := Aside0.mk (kp5.back HB.out bt0 bt1 bt2); clear ST BK HB st5 kp5; (try clear z0 z1 z2 z3 z4 z5); have ST := n0_; have BK := n1_; have HB := n2_; clear n0_ n1_ n2_; have z0 : w22.cell? ⟨gb, 0, none⟩ = some (.int .i64 f0) := (blk_cell BK.out 0).trans rfl; have z1 : w22.cell? ⟨gb, 1, none⟩ = some (.int .i64 2) := (blk_cell BK.out 1).trans rfl; have z2 : w22.cell? ⟨gb, 2, none⟩ = some (.int .i64 f2) := (blk_cell BK.out 2).trans rfl; have z3 : w22.cell? ⟨gb, 3, none⟩ = some (.int .i64 f3) := (blk_cell BK.out 3).trans rfl; have z4 : w22.cell? ⟨gb, 4, none⟩ = some (.int .i64 f4) := (blk_cell BK.out 4).trans rfl; have z5 : w22.cell? ⟨gb, 5, none⟩ = some (.int .i64 f5) := (blk_cell BK.out 5).trans rfl; skip))
                        go_roundg (l0.length - (i + 1))
                        case measure => have := HK.out; omega
                        case rel => exact ⟨i + 1, ⟨rfl⟩, ⟨hlt⟩, by go_num, ⟨by rw [HF.out]; exact ST.out⟩, HB⟩
                      · have HF : Aside0 (foldF l1.length a2 l0 l1 (i + 1) = (mvF 3 f2 f3 f4 B 2, clipF (mvF 3 f2 f3 f4 B 2) (T.set f3.toNat (wrap64 (rd T f3 - taken B T f3 f4))) (wrap64 (Lo + taken B T f3 f4)) l1.length)) := ⟨by rw [HS.out]; unfold rowF spF; simp only [if_neg (show ¬ ((i : Int) = a2) by omega), if_pos (show a2 < (i : Int) ∧ (3 : Int) ≠ 2 from ⟨hc, by decide⟩), if_neg (show ¬ (3 : Int) = 1 by decide), if_pos (show a2 ≤ (i : Int) by omega)]⟩
                        clear HS
                        go_wp2_with (first | ((with_reducible refine gate_callee (f := 19) rfl ?_); refine goesL_ (some 86) rfl rfl Try.func19 (by kernel_rfl) rfl #[.pointer (some ⟨gt, 0, none⟩), .agg #[.int .i64 f0, .int .i64 3, .int .i64 f2, .int .i64 f3, .int .i64 f4, .int .i64 f5]] rfl (by (try simp only [List.map_toArray, List.map_cons, List.map_nil]); first | done | rfl) ?_; refine Calls.mono (spend3 _ ST.out f0 f2 f3 f4 f5 o3 o4 o1 o2 (Ne.symm o5)) ?_; rintro e w20 ⟨rfl, st5, kp5⟩; refine ⟨_, rfl, ?_⟩; have n0_ := Aside0.mk st5; have n1_ := Aside0.mk (kp5.heap BK.out ne0 ne1 ne2); have n2_ := Aside0.mk (kp5.back HB.out bt0 bt1 bt2); clear ST BK HB st5 kp5; (try clear z0 z1 z2 z3 z4 z5); have ST := n0_; have BK := n1_; have HB := n2_; clear n0_ n1_ n2_; have z0 : w20.cell? ⟨gb, 0, none⟩ = some (.int .i64 f0) := (blk_cell BK.out 0).trans rfl; have z1 : w20.cell? ⟨gb, 1, none⟩ = some (.int .i64 3) := (blk_cell BK.out 1).trans rfl; have z2 : w20.cell? ⟨gb, 2, none⟩ = some (.int .i64 f2) := (blk_cell BK.out 2).trans rfl; have z3 : w20.cell? ⟨gb, 3, none⟩ = some (.int .i64 f3) := (blk_cell BK.out 3).trans rfl; have z4 : w20.cell? ⟨gb, 4, none⟩ = some (.int .i64 f4) := (blk_cell BK.out 4).trans rfl; have z5 : w20.cell? ⟨gb, 5, none⟩ = some (.int .i64 f5) := (blk_cell BK.out 5).trans rfl; skip) | ((with_reducible refine gate_callee (f := 20) rfl ?_); refine goesL_ (some 89) rfl rfl Try.func20 (by kernel_rfl) rfl #[.pointer (some ⟨gt, 0, none⟩), .agg #[.int .i64 f0, .int .i64 3, .int .i64 f2, .int .i64 f3, .int .i64 f4, .int .i64 f5]] rfl (by (try simp only [List.map_toArray, List.map_cons, List.map_nil]); first | done | rfl) ?_; refine Calls.mono (Tr.move _ ST.out f0 3 f2 f3 f4 f5 o1 o2 o3 o4) ?_; rintro e w21 ⟨rfl, st5, kp5⟩; refine ⟨_, rfl, ?_⟩; have n0_ := Aside0.mk st5; have n1_ := Aside0.mk (kp5.heap BK.out ne0 ne1 ne2); have n2_ := Aside0.mk (kp5.back HB.out bt0 bt1 bt2); clear ST BK HB st5 kp5; (try clear z0 z1 z2 z3 z4 z5); have ST := n0_; have BK := n1_; have HB := n2_; clear n0_ n1_ n2_; have z0 : w21.cell? ⟨gb, 0, none⟩ = some (.int .i64 f0) := (blk_cell BK.out 0).trans rfl; have z1 : w21.cell? ⟨gb, 1, none⟩ = some (.int .i64 3) := (blk_cell BK.out 1).trans rfl; have z2 : w21.cell? ⟨gb, 2, none⟩ = some (.int .i64 f2) := (blk_cell BK.out 2).trans rfl; have z3 : w21.cell? ⟨gb, 3, none⟩ = some (.int .i64 f3) := (blk_cell BK.out 3).trans rfl; have z4 : w21.cell? ⟨gb, 4, none⟩ = some (.int .i64 f4) := (blk_cell BK.out 4).trans rfl; have z5 : w21.cell? ⟨gb, 5, none⟩ = some (.int .i64 f5) := (blk_cell BK.out 5).trans rfl; skip) | ((with_reducible refine gate_callee (f := 21) rfl ?_); refine goesL_ (some 94) rfl rfl Try.func21 (by kernel_rfl) rfl #[.pointer (some ⟨gt, 0, none⟩)] rfl (by (try simp only [List.map_toArray, List.map_cons, List.map_nil]); first | done | rfl) ?_; refine Calls.mono (Tr.clip _ ST.out (by have := HZ.out.1; omega)) ?_; rintro e w22 ⟨rfl, st5, kp5⟩; refine ⟨_, rfl, ?_⟩; have n0_ := Aside0.mk st5; have n1_ := Aside0.mk (kp5.heap BK.out ne0 ne1 ne2); have n2_ := Aside0.mk (kp5.back HB.out bt0 bt1 bt2); clear ST BK HB st5 kp5; (try clear z0 z1 z2 z3 z4 z5); have ST := n0_; have BK := n1_; have HB := n2_; clear n0_ n1_ n2_; have z0 : w22.cell? ⟨gb, 0, none⟩ = some (.int .i64 f0) := (blk_cell BK.out 0).trans rfl; have z1 : w22.cell? ⟨gb, 1, none⟩ = some (.int .i64 3) := (blk_cell BK.out 1).trans rfl; have z2 : w22.cell? ⟨gb, 2, none⟩ = some (.int .i64 f2) := (blk_cell BK.out 2).trans rfl; have z3 : w22.cell? ⟨gb, 3, none⟩ = some (.int .i64 f3) := (blk_cell BK.out 3).trans rfl; have z4 : w22.cell? ⟨gb, 4, none⟩ = some (.int .i64 f4) := (blk_cell BK.out 4).trans rfl; have z5 : w22.cell? ⟨gb, 5, none⟩ = some (.int .i64 f5) := (blk_cell BK.out 5).trans rfl; skip))
                        go_roundg (l0.length - (i + 1))
                        case measure => have := HK.out; omega
                        case rel => exact ⟨i + 1, ⟨rfl⟩, ⟨hlt⟩, by go_num, ⟨by rw [HF.out]; exact ST.out⟩, HB⟩
                  · have b1 : decide ((i : Int) < (l0.length : Int)) = false := decide_eq_false (fun h => hlt (Int.ofNat_lt.mp h))
                    have b2 : decide (i < l0.length) = false := decide_eq_false hlt
                    obtain rfl : i = l0.length := by have := HI.out; omega
                    have x1 : wr.cell? ⟨gt, 1, none⟩ = some (.slice (some ⟨g2, 0, none⟩) l1.length cc2) := (blk_cell ST.out.blk 1).trans rfl
                    have x2 : wr.cell? ⟨gt, 2, none⟩ = some (.int .i64 (foldF l1.length a2 l0 l1 l0.length).2.2) := (blk_cell ST.out.blk 2).trans rfl
                    have hl : (foldF l1.length a2 l0 l1 l0.length).2.1.length = l1.length := by
                      have h1 := ST.out.ot.1
                      simpa [nums] using h1
                    have HL := Aside0.mk hl
                    clear hl
                    go_wp2
                    go_quiet (fail)
                    go_wp2
                    go_ret3
                    refine ⟨_, rfl, ?_, pw_below_drewN HB.out _⟩
                    refine Kd.R_of_own ?_ (fun _ _ => trivial)
                    rw [HL.out]
                    exact pw_own_below ST.out.ot (pw_below_drewN (Below.refl _ _) _)
              · rw [if_neg c4] at H
                exact absurd H (by simp)
end Go.Proofs.Ytljenpakncmlkaa.PAll
