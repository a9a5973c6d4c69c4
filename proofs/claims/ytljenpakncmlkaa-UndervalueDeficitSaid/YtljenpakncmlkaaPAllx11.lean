-- PRINTED by a session's own changed print
import Derived.Test.YtljenpakncmlkaaPAllx0
import Derived.Test.YtljenpakncmlkaaPAllx3
import Derived.Test.YtljenpakncmlkaaPAllx10
namespace Go.Proofs.Ytljenpakncmlkaa.PAll
open Go.RowKit Go.Proofs.YtljenpakncmlkaaW.PrintWords Go.Proofs.YtljenpakncmlkaaW.PrintLast
set_option linter.unusedVariables false
set_option linter.unusedSimpArgs false

/-! ### insolvencylaw27_UndervalueDeficit: function 6 -/
def insolvencylaw27_UndervalueDeficit.f (k : Nat) (a0_0 : Int) (a0_1 : Int) (a0_2 : Int) (a0_3 : Int) (a0_4 : Int) (a0_5 : Int) (a1 : Int) (a2 : Int) (a3 : Int) : Option (Bool) := (insolvencylaw27_awake.f k).bind fun t384 => (if t384 = true then ((undervalue_Deficit.f a0_0 a0_1 a0_2 a0_3 a0_4 a0_5).bind fun t385 => ((insolvencyref25_Deficit.f k a0_0 a0_1 a0_2 a0_3 a0_4 a0_5).bind fun t386 => (if t385 = t386 then ((undervalue_Deficit.f 0 (wrap64 (Int.tmod a3 5)) 0 0 (wrap64 (Int.tmod a1 200)) (wrap64 (Int.tmod a2 220))).bind fun t387 => ((insolvencyref25_Deficit.f k 0 (wrap64 (Int.tmod a3 5)) 0 0 (wrap64 (Int.tmod a1 200)) (wrap64 (Int.tmod a2 220))).bind fun t388 => (some (t387 == t388)))) else (some false)))) else (some false))
theorem insolvencylaw27_UndervalueDeficit.mono : ∀ a0 a1 a2 a3 a4 a5 a6 a7 a8 k, LeO (insolvencylaw27_UndervalueDeficit.f k a0 a1 a2 a3 a4 a5 a6 a7 a8) (insolvencylaw27_UndervalueDeficit.f (k + 1) a0 a1 a2 a3 a4 a5 a6 a7 a8) := by
  intro a0 a1 a2 a3 a4 a5 a6 a7 a8 k
  unfold insolvencylaw27_UndervalueDeficit.f
  repeat' first
      | (with_reducible exact insolvencylaw27_awake.mono _)
      | (with_reducible exact insolvencyref25_Deficit.mono _ _ _ _ _ _ _)
      | (with_reducible exact LeO.refl _)
      | (with_reducible exact LeO.none _)
      | (with_reducible refine LeO.ite ?_ ?_)
      | (with_reducible refine LeO.bind ?_ (fun _ => ?_))
      | exact insolvencylaw27_awake.mono _
      | exact insolvencyref25_Deficit.mono _ _ _ _ _ _ _
      | exact LeO.none _
      | refine LeO.ite ?_ ?_
      | refine LeO.bind ?_ (fun _ => ?_)
def insolvencylaw27_UndervalueDeficit.T2 : Bool × List (List Nat × List Nat) := (true, [([], []), ([0, 0], [0]), ([1], [1]), ([2, 1, 1], [1, 2]), ([1], [1]), ([4, 3, 1], [1, 4]), ([3, 5, 1], [1, 3, 5]), ([1, 6], [1, 6]), ([7, 5], [7]), ([8], [8]), ([9, 8, 8], [8, 9]), ([8], [8]), ([11, 10, 8], [8, 11]), ([10, 12, 8], [8, 10, 12]), ([8, 13], [8, 13]), ([14, 12, 0, 1, 2, 3, 4, 5, 6, 7, 8, 9, 10, 11, 12, 13, 14], [14])])
def insolvencylaw27_UndervalueDeficit.B2 : List Nat := [0, 1, 3, 7, 3, 31, 63, 127, 255, 511, 1023, 511, 4095, 8191, 16383, 32767]
theorem insolvencylaw27_UndervalueDeficit.tab2 : rtab .any (opsOf Try.f6 2) = insolvencylaw27_UndervalueDeficit.T2 := by kernel_rfl
theorem insolvencylaw27_UndervalueDeficit.bits2 : waitsOk insolvencylaw27_UndervalueDeficit.T2.2 insolvencylaw27_UndervalueDeficit.B2 = true := by kernel_rfl
set_option maxHeartbeats 8000000 in
set_option maxRecDepth 100000 in
theorem insolvencylaw27_UndervalueDeficit.calls (k : Nat) (a0_0 : Int) (a0_1 : Int) (a0_2 : Int) (a0_3 : Int) (a0_4 : Int) (a0_5 : Int) (a1 : Int) (a2 : Int) (a3 : Int) (r : Bool) (w : World) (h : insolvencylaw27_UndervalueDeficit.f k a0_0 a0_1 a0_2 a0_3 a0_4 a0_5 a1 a2 a3 = some r) :
    Calls Try.prog 6 #[.agg #[.int .i64 a0_0, .int .i64 a0_1, .int .i64 a0_2, .int .i64 a0_3, .int .i64 a0_4, .int .i64 a0_5], .int .u16 a1, .int .u16 a2, .int .u8 a3] w fun e w' => e = .returned (.bool r) ∧ Below w.heap.size w w' := by
  have hu36 := Try.underlying36
  have HB := Aside0.mk (Below.refl w.heap.size w)
  have H : ((insolvencylaw27_awake.f k).bind fun t384 => (if t384 = true then ((undervalue_Deficit.f a0_0 a0_1 a0_2 a0_3 a0_4 a0_5).bind fun t385 => ((insolvencyref25_Deficit.f k a0_0 a0_1 a0_2 a0_3 a0_4 a0_5).bind fun t386 => (if t385 = t386 then ((undervalue_Deficit.f 0 (wrap64 (Int.tmod a3 5)) 0 0 (wrap64 (Int.tmod a1 200)) (wrap64 (Int.tmod a2 220))).bind fun t387 => ((insolvencyref25_Deficit.f k 0 (wrap64 (Int.tmod a3 5)) 0 0 (wrap64 (Int.tmod a1 200)) (wrap64 (Int.tmod a2 220))).bind fun t388 => (some (t387 == t388)))) else (some false)))) else (some false))) = some r := h
  clear h
  replace H := Option.bind_eq_some_iff.mp H
  obtain ⟨t384, A50, H⟩ := H
  replace H : (if t384 = true then ((undervalue_Deficit.f a0_0 a0_1 a0_2 a0_3 a0_4 a0_5).bind fun t385 => ((insolvencyref25_Deficit.f k a0_0 a0_1 a0_2 a0_3 a0_4 a0_5).bind fun t386 => (if t385 = t386 then ((undervalue_Deficit.f 0 (wrap64 (Int.tmod a3 5)) 0 0 (wrap64 (Int.tmod a1 200)) (wrap64 (Int.tmod a2 220))).bind fun t387 => ((insolvencyref25_Deficit.f k 0 (wrap64 (Int.tmod a3 5)) 0 0 (wrap64 (Int.tmod a1 200)) (wrap64 (Int.tmod a2 220))).bind fun t388 => (some (t387 == t388)))) else (some false)))) else (some false)) = some r := H
  have A5 := Aside0.mk A50
  clear A50
  by_cases c6 : t384 = true
  · subst c6
    have H1 : ((undervalue_Deficit.f a0_0 a0_1 a0_2 a0_3 a0_4 a0_5).bind fun t385 => ((insolvencyref25_Deficit.f k a0_0 a0_1 a0_2 a0_3 a0_4 a0_5).bind fun t386 => (if t385 = t386 then ((undervalue_Deficit.f 0 (wrap64 (Int.tmod a3 5)) 0 0 (wrap64 (Int.tmod a1 200)) (wrap64 (Int.tmod a2 220))).bind fun t387 => ((insolvencyref25_Deficit.f k 0 (wrap64 (Int.tmod a3 5)) 0 0 (wrap64 (Int.tmod a1 200)) (wrap64 (Int.tmod a2 220))).bind fun t388 => (some (t387 == t388)))) else (some false)))) = some r := by rw [if_pos rfl] at H; exact H
    clear H
    have H := H1
    clear H1
    replace H := Option.bind_eq_some_iff.mp H
    obtain ⟨t385, A70, H⟩ := H
    replace H : ((insolvencyref25_Deficit.f k a0_0 a0_1 a0_2 a0_3 a0_4 a0_5).bind fun t386 => (if t385 = t386 then ((undervalue_Deficit.f 0 (wrap64 (Int.tmod a3 5)) 0 0 (wrap64 (Int.tmod a1 200)) (wrap64 (Int.tmod a2 220))).bind fun t387 => ((insolvencyref25_Deficit.f k 0 (wrap64 (Int.tmod a3 5)) 0 0 (wrap64 (Int.tmod a1 200)) (wrap64 (Int.tmod a2 220))).bind fun t388 => (some (t387 == t388)))) else (some false))) = some r := H
    have A7 := Aside0.mk A70
    clear A70
    replace H := Option.bind_eq_some_iff.mp H
    obtain ⟨t386, A80, H⟩ := H
    replace H : (if t385 = t386 then ((undervalue_Deficit.f 0 (wrap64 (Int.tmod a3 5)) 0 0 (wrap64 (Int.tmod a1 200)) (wrap64 (Int.tmod a2 220))).bind fun t387 => ((insolvencyref25_Deficit.f k 0 (wrap64 (Int.tmod a3 5)) 0 0 (wrap64 (Int.tmod a1 200)) (wrap64 (Int.tmod a2 220))).bind fun t388 => (some (t387 == t388)))) else (some false)) = some r := H
    have A8 := Aside0.mk A80
    clear A80
    by_cases c9 : t385 = t386
    · rw [if_pos c9] at H
      have c9b0 : (t385 == t386) = true := beq_iff_eq.mpr c9
      have c9b1 : (t385 != t386) = false := bne_eq_false_iff_eq.mpr c9
      clear c9
      replace H := Option.bind_eq_some_iff.mp H
      obtain ⟨t387, A100, H⟩ := H
      replace H : ((insolvencyref25_Deficit.f k 0 (wrap64 (Int.tmod a3 5)) 0 0 (wrap64 (Int.tmod a1 200)) (wrap64 (Int.tmod a2 220))).bind fun t388 => (some (t387 == t388))) = some r := H
      have A10 := Aside0.mk A100
      clear A100
      replace H := Option.bind_eq_some_iff.mp H
      obtain ⟨t388, A110, H⟩ := H
      replace H : (some (t387 == t388)) = some r := H
      have A11 := Aside0.mk A110
      clear A110
      obtain rfl := Option.some.inj H
      go_enter Try.func6, Try.ntmps6
      try go_wp2_with (first | ((with_reducible refine gate_dst (N := 4) rfl ?_); refine box_event ?hg (N := 4) ?hd (cs := #[.int .i64 a0_0, .int .i64 a0_1, .int .i64 a0_2, .int .i64 a0_3, .int .i64 a0_4, .int .i64 a0_5]) (t := 36) ?hr ?_; (case hd => rfl); (case hg => rfl); (case hr => first | (go_simp; done) | (go_simp; rfl)); intro gb382 hg w12 hbox hb; have n0_ := Aside0.mk (below_step (by repeat (first | (with_reducible first | exact HB.out | apply below_alloc | apply pw_below_drewN | apply below_drew1) | exact HB.out)) hb); have n1_ := Aside0.mk (hbox); have n2_ := Aside0.mk ((by rw [hg]; exact (below_size (by repeat (first | (with_reducible first | exact HB.out | apply below_alloc | apply pw_below_drewN | apply below_drew1) | exact HB.out))) : w.heap.size ≤ gb382)); have n3_ := Aside0.mk ((by rw [hg]; exact (below_size (by repeat (first | (with_reducible first | exact HB.out | apply below_alloc | apply pw_below_drewN | apply below_drew1) | exact HB.out))) : w.heap.size ≤ gb382)); clear HB; have HB := n0_; have BK382 := n1_; have GW382 := n2_; have GE382 := n3_; clear n0_ n1_ n2_ n3_; clear hb hbox hg) | ((with_reducible refine gate_dst (N := 9) rfl ?_); refine box_event ?hg (N := 9) ?hd (cs := #[.int .i64 0, .int .i64 0, .int .i64 0, .int .i64 0, .int .i64 0, .int .i64 0]) (t := 36) ?hr ?_; (case hd => rfl); (case hg => rfl); (case hr => first | (go_simp; done) | (go_simp; rfl)); intro gb383 hg w13 hbox hb; have n0_ := Aside0.mk (blk_below (g := gb382) (o := .cells #[.int .i64 a0_0, .int .i64 a0_1, .int .i64 a0_2, .int .i64 a0_3, .int .i64 a0_4, .int .i64 a0_5] 36 (0, 0)) (by (with_reducible repeat (first | refine blk_drewN ?_ _ | refine blk_drew ?_ | refine blk_alloc ?_ _)); exact BK382.out) hb); have n1_ := Aside0.mk (below_step (by repeat (first | (with_reducible first | exact HB.out | apply below_alloc | apply pw_below_drewN | apply below_drew1 | refine below_set ?_ GE382.out) | exact HB.out)) hb); have n2_ := Aside0.mk (hbox); have n3_ := Aside0.mk ((by rw [hg]; exact (below_size (by repeat (first | (with_reducible first | exact HB.out | apply below_alloc | apply pw_below_drewN | apply below_drew1 | refine below_set ?_ GE382.out) | exact HB.out))) : w.heap.size ≤ gb383)); have n4_ := Aside0.mk ((by rw [hg]; exact (below_size (by repeat (first | (with_reducible first | exact HB.out | apply below_alloc | apply pw_below_drewN | apply below_drew1 | refine below_set ?_ GE382.out) | exact HB.out))) : w.heap.size ≤ gb383)); have n5_ := Aside0.mk ((by rw [hg]; exact Nat.ne_of_lt (blk_lt (g := gb382) (o := .cells #[.int .i64 a0_0, .int .i64 a0_1, .int .i64 a0_2, .int .i64 a0_3, .int .i64 a0_4, .int .i64 a0_5] 36 (0, 0)) (by (with_reducible repeat (first | refine blk_drewN ?_ _ | refine blk_drew ?_ | refine blk_alloc ?_ _)); exact BK382.out)) : gb382 ≠ gb383)); have n6_ := Aside0.mk ((by rw [hg]; exact Nat.ne_of_gt (blk_lt (g := gb382) (o := .cells #[.int .i64 a0_0, .int .i64 a0_1, .int .i64 a0_2, .int .i64 a0_3, .int .i64 a0_4, .int .i64 a0_5] 36 (0, 0)) (by (with_reducible repeat (first | refine blk_drewN ?_ _ | refine blk_drew ?_ | refine blk_alloc ?_ _)); exact BK382.out)) : gb383 ≠ gb382)); clear BK382; clear HB; have BK382 := n0_; have HB := n1_; have BK383 := n2_; have GW383 := n3_; have GE383 := n4_; have NB382_383 := n5_; have NB383_382 := n6_; clear n0_ n1_ n2_ n3_ n4_ n5_ n6_; clear hb hbox hg; have hnb14 := NB383_382.out; have hnc14 := NB382_383.out; have hcz15_0 : w13.cell? ⟨gb383, 0, none⟩ = some (.int .i64 0) := (blk_cell BK383.out 0).trans rfl; have hcz15_1 : w13.cell? ⟨gb383, 1, none⟩ = some (.int .i64 0) := (blk_cell BK383.out 1).trans rfl; have hcz15_2 : w13.cell? ⟨gb383, 2, none⟩ = some (.int .i64 0) := (blk_cell BK383.out 2).trans rfl; have hcz15_3 : w13.cell? ⟨gb383, 3, none⟩ = some (.int .i64 0) := (blk_cell BK383.out 3).trans rfl; have hcz15_4 : w13.cell? ⟨gb383, 4, none⟩ = some (.int .i64 0) := (blk_cell BK383.out 4).trans rfl; have hcz15_5 : w13.cell? ⟨gb383, 5, none⟩ = some (.int .i64 0) := (blk_cell BK383.out 5).trans rfl; have hfz15_0 := blk_frozen BK383.out 0; have hfz15_1 := blk_frozen BK383.out 1; have hfz15_2 := blk_frozen BK383.out 2; have hfz15_3 := blk_frozen BK383.out 3; have hfz15_4 := blk_frozen BK383.out 4; have hfz15_5 := blk_frozen BK383.out 5))
      have n0_ : Aside0 (((((((w13.setCell ⟨gb383, 0, none⟩ (.int .i64 0)).setCell ⟨gb383, 1, none⟩ (.int .i64 (wrap64 (Int.tmod a3 5)))).setCell ⟨gb383, 2, none⟩ (.int .i64 0)).setCell ⟨gb383, 3, none⟩ (.int .i64 0)).setCell ⟨gb383, 4, none⟩ (.int .i64 (wrap64 (Int.tmod a1 200)))).setCell ⟨gb383, 5, none⟩ (.int .i64 (wrap64 (Int.tmod a2 220)))).heap[gb382]? = some (.cells #[.int .i64 a0_0, .int .i64 a0_1, .int .i64 a0_2, .int .i64 a0_3, .int .i64 a0_4, .int .i64 a0_5] 36 (0, 0))) := ⟨by (with_reducible repeat (first | refine blk_drewN ?_ _ | refine blk_drew ?_ | refine blk_alloc ?_ _)); refine blk_far ?_ NB382_383.out _; (with_reducible repeat (first | refine blk_drewN ?_ _ | refine blk_drew ?_ | refine blk_alloc ?_ _)); refine blk_far ?_ NB382_383.out _; (with_reducible repeat (first | refine blk_drewN ?_ _ | refine blk_drew ?_ | refine blk_alloc ?_ _)); refine blk_far ?_ NB382_383.out _; (with_reducible repeat (first | refine blk_drewN ?_ _ | refine blk_drew ?_ | refine blk_alloc ?_ _)); refine blk_far ?_ NB382_383.out _; (with_reducible repeat (first | refine blk_drewN ?_ _ | refine blk_drew ?_ | refine blk_alloc ?_ _)); refine blk_far ?_ NB382_383.out _; (with_reducible repeat (first | refine blk_drewN ?_ _ | refine blk_drew ?_ | refine blk_alloc ?_ _)); refine blk_far ?_ NB382_383.out _; (with_reducible repeat (first | refine blk_drewN ?_ _ | refine blk_drew ?_ | refine blk_alloc ?_ _)); exact BK382.out⟩
      have n1_ : Aside0 (((((((w13.setCell ⟨gb383, 0, none⟩ (.int .i64 0)).setCell ⟨gb383, 1, none⟩ (.int .i64 (wrap64 (Int.tmod a3 5)))).setCell ⟨gb383, 2, none⟩ (.int .i64 0)).setCell ⟨gb383, 3, none⟩ (.int .i64 0)).setCell ⟨gb383, 4, none⟩ (.int .i64 (wrap64 (Int.tmod a1 200)))).setCell ⟨gb383, 5, none⟩ (.int .i64 (wrap64 (Int.tmod a2 220)))).heap[gb383]? = some (.cells #[.int .i64 0, .int .i64 (wrap64 (Int.tmod a3 5)), .int .i64 0, .int .i64 0, .int .i64 (wrap64 (Int.tmod a1 200)), .int .i64 (wrap64 (Int.tmod a2 220))] 36 (0, 0))) := ⟨by (with_reducible repeat (first | refine blk_drewN ?_ _ | refine blk_drew ?_ | refine blk_alloc ?_ _)); refine blk_put (cs := #[.int .i64 0, .int .i64 (wrap64 (Int.tmod a3 5)), .int .i64 0, .int .i64 0, .int .i64 (wrap64 (Int.tmod a1 200)), .int .i64 0]) ?_ 5 _ rfl; (with_reducible repeat (first | refine blk_drewN ?_ _ | refine blk_drew ?_ | refine blk_alloc ?_ _)); refine blk_put (cs := #[.int .i64 0, .int .i64 (wrap64 (Int.tmod a3 5)), .int .i64 0, .int .i64 0, .int .i64 0, .int .i64 0]) ?_ 4 _ rfl; (with_reducible repeat (first | refine blk_drewN ?_ _ | refine blk_drew ?_ | refine blk_alloc ?_ _)); refine blk_put (cs := #[.int .i64 0, .int .i64 (wrap64 (Int.tmod a3 5)), .int .i64 0, .int .i64 0, .int .i64 0, .int .i64 0]) ?_ 3 _ rfl; (with_reducible repeat (first | refine blk_drewN ?_ _ | refine blk_drew ?_ | refine blk_alloc ?_ _)); refine blk_put (cs := #[.int .i64 0, .int .i64 (wrap64 (Int.tmod a3 5)), .int .i64 0, .int .i64 0, .int .i64 0, .int .i64 0]) ?_ 2 _ rfl; (with_reducible repeat (first | refine blk_drewN ?_ _ | refine blk_drew ?_ | refine blk_alloc ?_ _)); refine blk_put (cs := #[.int .i64 0, .int .i64 0, .int .i64 0, .int .i64 0, .int .i64 0, .int .i64 0]) ?_ 1 _ rfl; (with_reducible repeat (first | refine blk_drewN ?_ _ | refine blk_drew ?_ | refine blk_alloc ?_ _)); refine blk_put (cs := #[.int .i64 0, .int .i64 0, .int .i64 0, .int .i64 0, .int .i64 0, .int .i64 0]) ?_ 0 _ rfl; (with_reducible repeat (first | refine blk_drewN ?_ _ | refine blk_drew ?_ | refine blk_alloc ?_ _)); exact BK383.out⟩
      have n2_ : Aside0 (Below w.heap.size w ((((((w13.setCell ⟨gb383, 0, none⟩ (.int .i64 0)).setCell ⟨gb383, 1, none⟩ (.int .i64 (wrap64 (Int.tmod a3 5)))).setCell ⟨gb383, 2, none⟩ (.int .i64 0)).setCell ⟨gb383, 3, none⟩ (.int .i64 0)).setCell ⟨gb383, 4, none⟩ (.int .i64 (wrap64 (Int.tmod a1 200)))).setCell ⟨gb383, 5, none⟩ (.int .i64 (wrap64 (Int.tmod a2 220))))) := ⟨by repeat (first | (with_reducible first | exact HB.out | apply below_alloc | apply pw_below_drewN | apply below_drew1 | refine below_set ?_ GE382.out | refine below_set ?_ GE383.out) | exact HB.out)⟩
      (try clear BK382)
      (try clear BK383)
      (try clear HB)
      generalize ((((((w13.setCell ⟨gb383, 0, none⟩ (.int .i64 0)).setCell ⟨gb383, 1, none⟩ (.int .i64 (wrap64 (Int.tmod a3 5)))).setCell ⟨gb383, 2, none⟩ (.int .i64 0)).setCell ⟨gb383, 3, none⟩ (.int .i64 0)).setCell ⟨gb383, 4, none⟩ (.int .i64 (wrap64 (Int.tmod a1 200)))).setCell ⟨gb383, 5, none⟩ (.int .i64 (wrap64 (Int.tmod a2 220)))) = w16 at n0_ n1_ n2_ ⊢
      have BK382 := n0_
      have BK383 := n1_
      have HB := n2_
      clear n0_ n1_ n2_
      have n0_ := Aside0.mk (blk_drew BK382.out)
      have n1_ := Aside0.mk (blk_drew BK383.out)
      have n2_ := Aside0.mk (below_drew1 HB.out)
      clear BK382
      clear BK383
      clear HB
      have BK382 := n0_
      have BK383 := n1_
      have HB := n2_
      clear n0_ n1_ n2_
      refine start_ (n := 16) (S := fun w' => w'.cell? ⟨gb382, 0, none⟩ = some (.int .i64 a0_0) ∧ w'.cell? ⟨gb382, 1, none⟩ = some (.int .i64 a0_1) ∧ w'.cell? ⟨gb382, 2, none⟩ = some (.int .i64 a0_2) ∧ w'.cell? ⟨gb382, 3, none⟩ = some (.int .i64 a0_3) ∧ w'.cell? ⟨gb382, 4, none⟩ = some (.int .i64 a0_4) ∧ w'.cell? ⟨gb382, 5, none⟩ = some (.int .i64 a0_5) ∧ w'.cell? ⟨gb383, 0, none⟩ = some (.int .i64 0) ∧ w'.cell? ⟨gb383, 1, none⟩ = some (.int .i64 (wrap64 (Int.tmod a3 5))) ∧ w'.cell? ⟨gb383, 2, none⟩ = some (.int .i64 0) ∧ w'.cell? ⟨gb383, 3, none⟩ = some (.int .i64 0) ∧ w'.cell? ⟨gb383, 4, none⟩ = some (.int .i64 (wrap64 (Int.tmod a1 200))) ∧ w'.cell? ⟨gb383, 5, none⟩ = some (.int .i64 (wrap64 (Int.tmod a2 220)))) (ds := []) #[false, false, false, false, false, false, false, false, false, false, false, false, false, false, false, false] (by kernel_rfl) rfl rfl ⟨(blk_cell BK382.out 0).trans rfl, (blk_cell BK382.out 1).trans rfl, (blk_cell BK382.out 2).trans rfl, (blk_cell BK382.out 3).trans rfl, (blk_cell BK382.out 4).trans rfl, (blk_cell BK382.out 5).trans rfl, (blk_cell BK383.out 0).trans rfl, (blk_cell BK383.out 1).trans rfl, (blk_cell BK383.out 2).trans rfl, (blk_cell BK383.out 3).trans rfl, (blk_cell BK383.out 4).trans rfl, (blk_cell BK383.out 5).trans rfl⟩ (fun hHeld => ?_); refine with_tabW insolvencylaw27_UndervalueDeficit.tab2 insolvencylaw27_UndervalueDeficit.bits2 (fun HT_ HW_ => ?_)
      generalize w16.drew = w17 at BK382 BK383 HB hHeld ⊢
      refine one_ (i := 0) (N := some 20) #[true, false, false, false, false, false, false, false, false, false, false, false, false, false, false, false] rfl rfl (one_of HT_.out (by kernel_rfl)) (by decide) (fun K hK => ?_)
      refine goes_ Try.func7 (by kernel_rfl) rfl #[] (by rfl) rfl rfl (by (try simp only [List.map_toArray, List.map_cons, List.map_nil]); first | done | rfl | (simp only [List.length_drop, List.length_take]; rfl)) ?_
      with_reducible refine (insolvencylaw27_awake.calls k  true _ A5.out).mono ?_
      rintro e w18 ⟨rfl, hb⟩
      refine ⟨_, rfl, ?_⟩
      have n0_ := Aside0.mk (blk_below (g := gb382) (o := .cells #[.int .i64 a0_0, .int .i64 a0_1, .int .i64 a0_2, .int .i64 a0_3, .int .i64 a0_4, .int .i64 a0_5] 36 (0, 0)) (by (with_reducible repeat (first | refine blk_drewN ?_ _ | refine blk_drew ?_ | refine blk_alloc ?_ _)); exact BK382.out) hb)
      have n1_ := Aside0.mk (blk_below (g := gb383) (o := .cells #[.int .i64 0, .int .i64 (wrap64 (Int.tmod a3 5)), .int .i64 0, .int .i64 0, .int .i64 (wrap64 (Int.tmod a1 200)), .int .i64 (wrap64 (Int.tmod a2 220))] 36 (0, 0)) (by (with_reducible repeat (first | refine blk_drewN ?_ _ | refine blk_drew ?_ | refine blk_alloc ?_ _)); exact BK383.out) hb)
      have n2_ := Aside0.mk (below_step (by repeat (first | (with_reducible first | exact HB.out | apply below_alloc | apply pw_below_drewN | apply below_drew1 | refine below_set ?_ GE382.out | refine below_set ?_ GE383.out) | exact HB.out)) hb)
      clear BK382
      clear BK383
      clear HB
      have BK382 := n0_
      have BK383 := n1_
      have HB := n2_
      clear n0_ n1_ n2_
      (try clear hb)
      (try clear hb2)
      (try clear hk)
      (try clear hi)
      refine hK.out _ _ ⟨(blk_cell BK382.out 0).trans rfl, (blk_cell BK382.out 1).trans rfl, (blk_cell BK382.out 2).trans rfl, (blk_cell BK382.out 3).trans rfl, (blk_cell BK382.out 4).trans rfl, (blk_cell BK382.out 5).trans rfl, (blk_cell BK383.out 0).trans rfl, (blk_cell BK383.out 1).trans rfl, (blk_cell BK383.out 2).trans rfl, (blk_cell BK383.out 3).trans rfl, (blk_cell BK383.out 4).trans rfl, (blk_cell BK383.out 5).trans rfl⟩ (fun hHeld => ?_)
      clear hK K
      refine norm_ (a' := ?_) ?_ ?_
      rotate_left
      · show Act.put _ (some 20) _ = _
        simp only [Act.put, List.setIfInBounds_toArray, List.set_cons_zero, List.set_cons_succ, i64_w, i32_w]
        rfl
      refine pure_ (i := 1) (N := some 21) (v := ?_) (a' := ?_) #[true, true, false, false, false, false, false, false, false, false, false, false, false, false, false, false] rfl rfl (any_of HT_.out (by kernel_rfl)) (fun _ _ _ h => h) (Or.inl ⟨by rfl, ?_⟩) ?_ ?_
      rotate_left
      · intro w'
        go_simp
        with_reducible rfl
      rotate_left
      · simp only [Act.put, List.setIfInBounds_toArray, List.set_cons_zero, List.set_cons_succ, i64_w, i32_w]
        rfl
      refine take_ (i := 2) (N := some 22) (v := ?_) (a' := ?_) #[true, true, true, false, false, false, false, false, false, false, false, false, false, false, false, false] rfl rfl (take_ofW HT_.out HW_.out (by kernel_rfl)) (fun _ _ _ h => h) (Or.inl ⟨by rfl, ?_⟩) hHeld ?_ ?_
      rotate_left
      · rintro w' ⟨s0, s1, s2, s3, s4, s5, s6, s7, s8, s9, s10, s11⟩
        go_simp
        with_reducible rfl
      rotate_left
      · simp only [Act.put, List.setIfInBounds_toArray, List.set_cons_zero, List.set_cons_succ, i64_w, i32_w]
        rfl
      refine take_ (i := 4) (N := some 24) (v := ?_) (a' := ?_) #[true, true, true, false, true, false, false, false, false, false, false, false, false, false, false, false] rfl rfl (take_ofW HT_.out HW_.out (by kernel_rfl)) (fun _ _ _ h => h) (Or.inl ⟨by rfl, ?_⟩) hHeld ?_ ?_
      rotate_left
      · rintro w' ⟨s0, s1, s2, s3, s4, s5, s6, s7, s8, s9, s10, s11⟩
        go_simp
        with_reducible rfl
      rotate_left
      · simp only [Act.put, List.setIfInBounds_toArray, List.set_cons_zero, List.set_cons_succ, i64_w, i32_w]
        rfl
      refine one_ (i := 3) (N := some 23) #[true, true, true, true, true, false, false, false, false, false, false, false, false, false, false, false] rfl rfl (one_of HT_.out (by kernel_rfl)) (by decide) (fun K hK => ?_)
      refine goes_ Try.func15 (by kernel_rfl) rfl #[.agg #[.int .i64 a0_0, .int .i64 a0_1, .int .i64 a0_2, .int .i64 a0_3, .int .i64 a0_4, .int .i64 a0_5]] (by rfl) rfl rfl (by (try simp only [List.map_toArray, List.map_cons, List.map_nil]); first | done | rfl | (simp only [List.length_drop, List.length_take]; rfl)) ?_
      with_reducible refine (undervalue_Deficit.calls a0_0 a0_1 a0_2 a0_3 a0_4 a0_5 t385 _ A7.out).mono ?_
      rintro e w19 ⟨rfl, hb⟩
      refine ⟨_, rfl, ?_⟩
      have n0_ := Aside0.mk (blk_below (g := gb382) (o := .cells #[.int .i64 a0_0, .int .i64 a0_1, .int .i64 a0_2, .int .i64 a0_3, .int .i64 a0_4, .int .i64 a0_5] 36 (0, 0)) (by (with_reducible repeat (first | refine blk_drewN ?_ _ | refine blk_drew ?_ | refine blk_alloc ?_ _)); exact BK382.out) hb)
      have n1_ := Aside0.mk (blk_below (g := gb383) (o := .cells #[.int .i64 0, .int .i64 (wrap64 (Int.tmod a3 5)), .int .i64 0, .int .i64 0, .int .i64 (wrap64 (Int.tmod a1 200)), .int .i64 (wrap64 (Int.tmod a2 220))] 36 (0, 0)) (by (with_reducible repeat (first | refine blk_drewN ?_ _ | refine blk_drew ?_ | refine blk_alloc ?_ _)); exact BK383.out) hb)
      have n2_ := Aside0.mk (below_step (by repeat (first | (with_reducible first | exact HB.out | apply below_alloc | apply pw_below_drewN | apply below_drew1 | refine below_set ?_ GE382.out | refine below_set ?_ GE383.out) | exact HB.out)) hb)
      clear BK382
      clear BK383
      clear HB
      have BK382 := n0_
      have BK383 := n1_
      have HB := n2_
      clear n0_ n1_ n2_
      (try clear hb)
      (try clear hb2)
      (try clear hk)
      (try clear hi)
      refine hK.out _ _ ⟨(blk_cell BK382.out 0).trans rfl, (blk_cell BK382.out 1).trans rfl, (blk_cell BK382.out 2).trans rfl, (blk_cell BK382.out 3).trans rfl, (blk_cell BK382.out 4).trans rfl, (blk_cell BK382.out 5).trans rfl, (blk_cell BK383.out 0).trans rfl, (blk_cell BK383.out 1).trans rfl, (blk_cell BK383.out 2).trans rfl, (blk_cell BK383.out 3).trans rfl, (blk_cell BK383.out 4).trans rfl, (blk_cell BK383.out 5).trans rfl⟩ (fun hHeld => ?_)
      clear hK K
      refine norm_ (a' := ?_) ?_ ?_
      rotate_left
      · show Act.put _ (some 23) _ = _
        simp only [Act.put, List.setIfInBounds_toArray, List.set_cons_zero, List.set_cons_succ, i64_w, i32_w]
        rfl
      refine one_ (i := 5) (N := some 25) #[true, true, true, true, true, true, false, false, false, false, false, false, false, false, false, false] rfl rfl (one_of HT_.out (by kernel_rfl)) (by decide) (fun K hK => ?_)
      refine goes_ Try.func16 (by kernel_rfl) rfl #[.agg #[.int .i64 a0_0, .int .i64 a0_1, .int .i64 a0_2, .int .i64 a0_3, .int .i64 a0_4, .int .i64 a0_5]] (by rfl) rfl rfl (by (try simp only [List.map_toArray, List.map_cons, List.map_nil]); first | done | rfl | (simp only [List.length_drop, List.length_take]; rfl)) ?_
      with_reducible refine (insolvencyref25_Deficit.calls k a0_0 a0_1 a0_2 a0_3 a0_4 a0_5 t386 _ A8.out).mono ?_
      rintro e w20 ⟨rfl, hb⟩
      refine ⟨_, rfl, ?_⟩
      have n0_ := Aside0.mk (blk_below (g := gb382) (o := .cells #[.int .i64 a0_0, .int .i64 a0_1, .int .i64 a0_2, .int .i64 a0_3, .int .i64 a0_4, .int .i64 a0_5] 36 (0, 0)) (by (with_reducible repeat (first | refine blk_drewN ?_ _ | refine blk_drew ?_ | refine blk_alloc ?_ _)); exact BK382.out) hb)
      have n1_ := Aside0.mk (blk_below (g := gb383) (o := .cells #[.int .i64 0, .int .i64 (wrap64 (Int.tmod a3 5)), .int .i64 0, .int .i64 0, .int .i64 (wrap64 (Int.tmod a1 200)), .int .i64 (wrap64 (Int.tmod a2 220))] 36 (0, 0)) (by (with_reducible repeat (first | refine blk_drewN ?_ _ | refine blk_drew ?_ | refine blk_alloc ?_ _)); exact BK383.out) hb)
      have n2_ := Aside0.mk (below_step (by repeat (first | (with_reducible first | exact HB.out | apply below_alloc | apply pw_below_drewN | apply below_drew1 | refine below_set ?_ GE382.out | refine below_set ?_ GE383.out) | exact HB.out)) hb)
      clear BK382
      clear BK383
      clear HB
      have BK382 := n0_
      have BK383 := n1_
      have HB := n2_
      clear n0_ n1_ n2_
      (try clear hb)
      (try clear hb2)
      (try clear hk)
      (try clear hi)
      refine hK.out _ _ ⟨(blk_cell BK382.out 0).trans rfl, (blk_cell BK382.out 1).trans rfl, (blk_cell BK382.out 2).trans rfl, (blk_cell BK382.out 3).trans rfl, (blk_cell BK382.out 4).trans rfl, (blk_cell BK382.out 5).trans rfl, (blk_cell BK383.out 0).trans rfl, (blk_cell BK383.out 1).trans rfl, (blk_cell BK383.out 2).trans rfl, (blk_cell BK383.out 3).trans rfl, (blk_cell BK383.out 4).trans rfl, (blk_cell BK383.out 5).trans rfl⟩ (fun hHeld => ?_)
      clear hK K
      refine norm_ (a' := ?_) ?_ ?_
      rotate_left
      · show Act.put _ (some 25) _ = _
        simp only [Act.put, List.setIfInBounds_toArray, List.set_cons_zero, List.set_cons_succ, i64_w, i32_w]
        rfl
      refine pure_ (i := 6) (N := some 26) (v := ?_) (a' := ?_) #[true, true, true, true, true, true, true, false, false, false, false, false, false, false, false, false] rfl rfl (any_of HT_.out (by kernel_rfl)) (fun _ _ _ h => h) (Or.inl ⟨by rfl, ?_⟩) ?_ ?_
      rotate_left
      · intro w'
        go_simp
        with_reducible rfl
      rotate_left
      · simp only [Act.put, List.setIfInBounds_toArray, List.set_cons_zero, List.set_cons_succ, i64_w, i32_w]
        rfl
      refine pure_ (i := 7) (N := some 27) (v := ?_) (a' := ?_) #[true, true, true, true, true, true, true, true, false, false, false, false, false, false, false, false] rfl rfl (any_of HT_.out (by kernel_rfl)) (fun _ _ _ h => h) (Or.inl ⟨by rfl, ?_⟩) ?_ ?_
      rotate_left
      · intro w'
        go_simp
        with_reducible rfl
      rotate_left
      · simp only [Act.put, List.setIfInBounds_toArray, List.set_cons_zero, List.set_cons_succ, i64_w, i32_w]
        rfl
      refine pure_ (i := 8) (N := some 28) (v := ?_) (a' := ?_) #[true, true, true, true, true, true, true, true, true, false, false, false, false, false, false, false] rfl rfl (any_of HT_.out (by kernel_rfl)) (fun _ _ _ h => h) (Or.inl ⟨by rfl, ?_⟩) ?_ ?_
      rotate_left
      · intro w'
        go_simp
        with_reducible rfl
      rotate_left
      · simp only [Act.put, List.setIfInBounds_toArray, List.set_cons_zero, List.set_cons_succ, i64_w, i32_w]
        rfl
      refine take_ (i := 9) (N := some 29) (v := ?_) (a' := ?_) #[true, true, true, true, true, true, true, true, true, true, false, false, false, false, false, false] rfl rfl (take_ofW HT_.out HW_.out (by kernel_rfl)) (fun _ _ _ h => h) (Or.inl ⟨by rfl, ?_⟩) hHeld ?_ ?_
      rotate_left
      · rintro w' ⟨s0, s1, s2, s3, s4, s5, s6, s7, s8, s9, s10, s11⟩
        go_simp
        with_reducible rfl
      rotate_left
      · simp only [Act.put, List.setIfInBounds_toArray, List.set_cons_zero, List.set_cons_succ, i64_w, i32_w]
        rfl
      refine take_ (i := 11) (N := some 31) (v := ?_) (a' := ?_) #[true, true, true, true, true, true, true, true, true, true, false, true, false, false, false, false] rfl rfl (take_ofW HT_.out HW_.out (by kernel_rfl)) (fun _ _ _ h => h) (Or.inl ⟨by rfl, ?_⟩) hHeld ?_ ?_
      rotate_left
      · rintro w' ⟨s0, s1, s2, s3, s4, s5, s6, s7, s8, s9, s10, s11⟩
        go_simp
        with_reducible rfl
      rotate_left
      · simp only [Act.put, List.setIfInBounds_toArray, List.set_cons_zero, List.set_cons_succ, i64_w, i32_w]
        rfl
      refine one_ (i := 10) (N := some 30) #[true, true, true, true, true, true, true, true, true, true, true, true, false, false, false, false] rfl rfl (one_of HT_.out (by kernel_rfl)) (by decide) (fun K hK => ?_)
      refine goes_ Try.func15 (by kernel_rfl) rfl #[.agg #[.int .i64 0, .int .i64 (wrap64 (Int.tmod a3 5)), .int .i64 0, .int .i64 0, .int .i64 (wrap64 (Int.tmod a1 200)), .int .i64 (wrap64 (Int.tmod a2 220))]] (by rfl) rfl rfl (by (try simp only [List.map_toArray, List.map_cons, List.map_nil]); first | done | rfl | (simp only [List.length_drop, List.length_take]; rfl)) ?_
      with_reducible refine (undervalue_Deficit.calls 0 (wrap64 (Int.tmod a3 5)) 0 0 (wrap64 (Int.tmod a1 200)) (wrap64 (Int.tmod a2 220)) t387 _ A10.out).mono ?_
      rintro e w21 ⟨rfl, hb⟩
      refine ⟨_, rfl, ?_⟩
      have n0_ := Aside0.mk (blk_below (g := gb382) (o := .cells #[.int .i64 a0_0, .int .i64 a0_1, .int .i64 a0_2, .int .i64 a0_3, .int .i64 a0_4, .int .i64 a0_5] 36 (0, 0)) (by (with_reducible repeat (first | refine blk_drewN ?_ _ | refine blk_drew ?_ | refine blk_alloc ?_ _)); exact BK382.out) hb)
      have n1_ := Aside0.mk (blk_below (g := gb383) (o := .cells #[.int .i64 0, .int .i64 (wrap64 (Int.tmod a3 5)), .int .i64 0, .int .i64 0, .int .i64 (wrap64 (Int.tmod a1 200)), .int .i64 (wrap64 (Int.tmod a2 220))] 36 (0, 0)) (by (with_reducible repeat (first | refine blk_drewN ?_ _ | refine blk_drew ?_ | refine blk_alloc ?_ _)); exact BK383.out) hb)
      have n2_ := Aside0.mk (below_step (by repeat (first | (with_reducible first | exact HB.out | apply below_alloc | apply pw_below_drewN | apply below_drew1 | refine below_set ?_ GE382.out | refine below_set ?_ GE383.out) | exact HB.out)) hb)
      clear BK382
      clear BK383
      clear HB
      have BK382 := n0_
      have BK383 := n1_
      have HB := n2_
      clear n0_ n1_ n2_
      (try clear hb)
      (try clear hb2)
      (try clear hk)
      (try clear hi)
      refine hK.out _ _ ⟨(blk_cell BK382.out 0).trans rfl, (blk_cell BK382.out 1).trans rfl, (blk_cell BK382.out 2).trans rfl, (blk_cell BK382.out 3).trans rfl, (blk_cell BK382.out 4).trans rfl, (blk_cell BK382.out 5).trans rfl, (blk_cell BK383.out 0).trans rfl, (blk_cell BK383.out 1).trans rfl, (blk_cell BK383.out 2).trans rfl, (blk_cell BK383.out 3).trans rfl, (blk_cell BK383.out 4).trans rfl, (blk_cell BK383.out 5).trans rfl⟩ (fun hHeld => ?_)
      clear hK K
      refine norm_ (a' := ?_) ?_ ?_
      rotate_left
      · show Act.put _ (some 30) _ = _
        simp only [Act.put, List.setIfInBounds_toArray, List.set_cons_zero, List.set_cons_succ, i64_w, i32_w]
        rfl
      refine one_ (i := 12) (N := some 32) #[true, true, true, true, true, true, true, true, true, true, true, true, true, false, false, false] rfl rfl (one_of HT_.out (by kernel_rfl)) (by decide) (fun K hK => ?_)
      refine goes_ Try.func16 (by kernel_rfl) rfl #[.agg #[.int .i64 0, .int .i64 (wrap64 (Int.tmod a3 5)), .int .i64 0, .int .i64 0, .int .i64 (wrap64 (Int.tmod a1 200)), .int .i64 (wrap64 (Int.tmod a2 220))]] (by rfl) rfl rfl (by (try simp only [List.map_toArray, List.map_cons, List.map_nil]); first | done | rfl | (simp only [List.length_drop, List.length_take]; rfl)) ?_
      with_reducible refine (insolvencyref25_Deficit.calls k 0 (wrap64 (Int.tmod a3 5)) 0 0 (wrap64 (Int.tmod a1 200)) (wrap64 (Int.tmod a2 220)) t388 _ A11.out).mono ?_
      rintro e w22 ⟨rfl, hb⟩
      refine ⟨_, rfl, ?_⟩
      have n0_ := Aside0.mk (blk_below (g := gb382) (o := .cells #[.int .i64 a0_0, .int .i64 a0_1, .int .i64 a0_2, .int .i64 a0_3, .int .i64 a0_4, .int .i64 a0_5] 36 (0, 0)) (by (with_reducible repeat (first | refine blk_drewN ?_ _ | refine blk_drew ?_ | refine blk_alloc ?_ _)); exact BK382.out) hb)
      have n1_ := Aside0.mk (blk_below (g := gb383) (o := .cells #[.int .i64 0, .int .i64 (wrap64 (Int.tmod a3 5)), .int .i64 0, .int .i64 0, .int .i64 (wrap64 (Int.tmod a1 200)), .int .i64 (wrap64 (Int.tmod a2 220))] 36 (0, 0)) (by (with_reducible repeat (first | refine blk_drewN ?_ _ | refine blk_drew ?_ | refine blk_alloc ?_ _)); exact BK383.out) hb)
      have n2_ := Aside0.mk (below_step (by repeat (first | (with_reducible first | exact HB.out | apply below_alloc | apply pw_below_drewN | apply below_drew1 | refine below_set ?_ GE382.out | refine below_set ?_ GE383.out) | exact HB.out)) hb)
      clear BK382
      clear BK383
      clear HB
      have BK382 := n0_
      have BK383 := n1_
      have HB := n2_
      clear n0_ n1_ n2_
      (try clear hb)
      (try clear hb2)
      (try clear hk)
      (try clear hi)
      refine hK.out _ _ ⟨(blk_cell BK382.out 0).trans rfl, (blk_cell BK382.out 1).trans rfl, (blk_cell BK382.out 2).trans rfl, (blk_cell BK382.out 3).trans rfl, (blk_cell BK382.out 4).trans rfl, (blk_cell BK382.out 5).trans rfl, (blk_cell BK383.out 0).trans rfl, (blk_cell BK383.out 1).trans rfl, (blk_cell BK383.out 2).trans rfl, (blk_cell BK383.out 3).trans rfl, (blk_cell BK383.out 4).trans rfl, (blk_cell BK383.out 5).trans rfl⟩ (fun hHeld => ?_)
      clear hK K
      refine norm_ (a' := ?_) ?_ ?_
      rotate_left
      · show Act.put _ (some 32) _ = _
        simp only [Act.put, List.setIfInBounds_toArray, List.set_cons_zero, List.set_cons_succ, i64_w, i32_w]
        rfl
      refine pure_ (i := 13) (N := some 33) (v := ?_) (a' := ?_) #[true, true, true, true, true, true, true, true, true, true, true, true, true, true, false, false] rfl rfl (any_of HT_.out (by kernel_rfl)) (fun _ _ _ h => h) (Or.inl ⟨by rfl, ?_⟩) ?_ ?_
      rotate_left
      · intro w'
        go_simp
        with_reducible rfl
      rotate_left
      · simp only [Act.put, List.setIfInBounds_toArray, List.set_cons_zero, List.set_cons_succ, i64_w, i32_w]
        rfl
      refine pure_ (i := 14) (N := some 34) (v := ?_) (a' := ?_) #[true, true, true, true, true, true, true, true, true, true, true, true, true, true, true, false] rfl rfl (any_of HT_.out (by kernel_rfl)) (fun _ _ _ h => h) (Or.inl ⟨by rfl, ?_⟩) ?_ ?_
      rotate_left
      · intro w'
        go_simp
        with_reducible rfl
      rotate_left
      · simp only [Act.put, List.setIfInBounds_toArray, List.set_cons_zero, List.set_cons_succ, i64_w, i32_w]
        rfl
      refine pure_ (i := 15) (N := some 8) (v := ?_) (a' := ?_) #[true, true, true, true, true, true, true, true, true, true, true, true, true, true, true, true] rfl rfl (any_of HT_.out (by kernel_rfl)) (fun _ _ _ h => h) (Or.inl ⟨by rfl, ?_⟩) ?_ ?_
      rotate_left
      · intro w'
        go_simp
        with_reducible rfl
      rotate_left
      · simp only [Act.put, List.setIfInBounds_toArray, List.set_cons_zero, List.set_cons_succ, i64_w, i32_w]
        rfl
      refine done_ (done_of HT_.out (by kernel_rfl)) ?_
      try go_wp2
      go_ret
      exact ⟨by first | rfl | (simp [errW_none, errW_some] <;> rfl) | (simp [*, errW_none, errW_some] <;> rfl), by repeat (first | (with_reducible first | exact HB.out | apply below_alloc | apply pw_below_drewN | apply below_drew1 | refine below_set ?_ GE382.out | refine below_set ?_ GE383.out) | exact HB.out)⟩
    · rw [if_neg c9] at H
      have c9b0 : (t385 == t386) = false := beq_eq_false_iff_ne.mpr c9
      have c9b1 : (t385 != t386) = true := bne_iff_ne.mpr c9
      obtain rfl := Option.some.inj H
      go_enter Try.func6, Try.ntmps6
      try go_wp2_with (first | ((with_reducible refine gate_dst (N := 4) rfl ?_); refine box_event ?hg (N := 4) ?hd (cs := #[.int .i64 a0_0, .int .i64 a0_1, .int .i64 a0_2, .int .i64 a0_3, .int .i64 a0_4, .int .i64 a0_5]) (t := 36) ?hr ?_; (case hd => rfl); (case hg => rfl); (case hr => first | (go_simp; done) | (go_simp; rfl)); intro gb382 hg w23 hbox hb; have n0_ := Aside0.mk (below_step (by repeat (first | (with_reducible first | exact HB.out | apply below_alloc | apply pw_below_drewN | apply below_drew1) | exact HB.out)) hb); have n1_ := Aside0.mk (hbox); have n2_ := Aside0.mk ((by rw [hg]; exact (below_size (by repeat (first | (with_reducible first | exact HB.out | apply below_alloc | apply pw_below_drewN | apply below_drew1) | exact HB.out))) : w.heap.size ≤ gb382)); have n3_ := Aside0.mk ((by rw [hg]; exact (below_size (by repeat (first | (with_reducible first | exact HB.out | apply below_alloc | apply pw_below_drewN | apply below_drew1) | exact HB.out))) : w.heap.size ≤ gb382)); clear HB; have HB := n0_; have BK382 := n1_; have GW382 := n2_; have GE382 := n3_; clear n0_ n1_ n2_ n3_; clear hb hbox hg) | ((with_reducible refine gate_dst (N := 9) rfl ?_); refine box_event ?hg (N := 9) ?hd (cs := #[.int .i64 0, .int .i64 0, .int .i64 0, .int .i64 0, .int .i64 0, .int .i64 0]) (t := 36) ?hr ?_; (case hd => rfl); (case hg => rfl); (case hr => first | (go_simp; done) | (go_simp; rfl)); intro gb383 hg w24 hbox hb; have n0_ := Aside0.mk (blk_below (g := gb382) (o := .cells #[.int .i64 a0_0, .int .i64 a0_1, .int .i64 a0_2, .int .i64 a0_3, .int .i64 a0_4, .int .i64 a0_5] 36 (0, 0)) (by (with_reducible repeat (first | refine blk_drewN ?_ _ | refine blk_drew ?_ | refine blk_alloc ?_ _)); exact BK382.out) hb); have n1_ := Aside0.mk (below_step (by repeat (first | (with_reducible first | exact HB.out | apply below_alloc | apply pw_below_drewN | apply below_drew1 | refine below_set ?_ GE382.out) | exact HB.out)) hb); have n2_ := Aside0.mk (hbox); have n3_ := Aside0.mk ((by rw [hg]; exact (below_size (by repeat (first | (with_reducible first | exact HB.out | apply below_alloc | apply pw_below_drewN | apply below_drew1 | refine below_set ?_ GE382.out) | exact HB.out))) : w.heap.size ≤ gb383)); have n4_ := Aside0.mk ((by rw [hg]; exact (below_size (by repeat (first | (with_reducible first | exact HB.out | apply below_alloc | apply pw_below_drewN | apply below_drew1 | refine below_set ?_ GE382.out) | exact HB.out))) : w.heap.size ≤ gb383)); have n5_ := Aside0.mk ((by rw [hg]; exact Nat.ne_of_lt (blk_lt (g := gb382) (o := .cells #[.int .i64 a0_0, .int .i64 a0_1, .int .i64 a0_2, .int .i64 a0_3, .int .i64 a0_4, .int .i64 a0_5] 36 (0, 0)) (by (with_reducible repeat (first | refine blk_drewN ?_ _ | refine blk_drew ?_ | refine blk_alloc ?_ _)); exact BK382.out)) : gb382 ≠ gb383)); have n6_ := Aside0.mk ((by rw [hg]; exact Nat.ne_of_gt (blk_lt (g := gb382) (o := .cells #[.int .i64 a0_0, .int .i64 a0_1, .int .i64 a0_2, .int .i64 a0_3, .int .i64 a0_4, .int .i64 a0_5] 36 (0, 0)) (by (with_reducible repeat (first | refine blk_drewN ?_ _ | refine blk_drew ?_ | refine blk_alloc ?_ _)); exact BK382.out)) : gb383 ≠ gb382)); clear BK382; clear HB; have BK382 := n0_; have HB := n1_; have BK383 := n2_; have GW383 := n3_; have GE383 := n4_; have NB382_383 := n5_; have NB383_382 := n6_; clear n0_ n1_ n2_ n3_ n4_ n5_ n6_; clear hb hbox hg; have hnb25 := NB383_382.out; have hnc25 := NB382_383.out; have hcz26_0 : w24.cell? ⟨gb383, 0, none⟩ = some (.int .i64 0) := (blk_cell BK383.out 0).trans rfl; have hcz26_1 : w24.cell? ⟨gb383, 1, none⟩ = some (.int .i64 0) := (blk_cell BK383.out 1).trans rfl; have hcz26_2 : w24.cell? ⟨gb383, 2, none⟩ = some (.int .i64 0) := (blk_cell BK383.out 2).trans rfl; have hcz26_3 : w24.cell? ⟨gb383, 3, none⟩ = some (.int .i64 0) := (blk_cell BK383.out 3).trans rfl; have hcz26_4 : w24.cell? ⟨gb383, 4, none⟩ = some (.int .i64 0) := (blk_cell BK383.out 4).trans rfl; have hcz26_5 : w24.cell? ⟨gb383, 5, none⟩ = some (.int .i64 0) := (blk_cell BK383.out 5).trans rfl; have hfz26_0 := blk_frozen BK383.out 0; have hfz26_1 := blk_frozen BK383.out 1; have hfz26_2 := blk_frozen BK383.out 2; have hfz26_3 := blk_frozen BK383.out 3; have hfz26_4 := blk_frozen BK383.out 4; have hfz26_5 := blk_frozen BK383.out 5))
      have n0_ : Aside0 (((((((w24.setCell ⟨gb383, 0, none⟩ (.int .i64 0)).setCell ⟨gb383, 1, none⟩ (.int .i64 (wrap64 (Int.tmod a3 5)))).setCell ⟨gb383, 2, none⟩ (.int .i64 0)).setCell ⟨gb383, 3, none⟩ (.int .i64 0)).setCell ⟨gb383, 4, none⟩ (.int .i64 (wrap64 (Int.tmod a1 200)))).setCell ⟨gb383, 5, none⟩ (.int .i64 (wrap64 (Int.tmod a2 220)))).heap[gb382]? = some (.cells #[.int .i64 a0_0, .int .i64 a0_1, .int .i64 a0_2, .int .i64 a0_3, .int .i64 a0_4, .int .i64 a0_5] 36 (0, 0))) := ⟨by (with_reducible repeat (first | refine blk_drewN ?_ _ | refine blk_drew ?_ | refine blk_alloc ?_ _)); refine blk_far ?_ NB382_383.out _; (with_reducible repeat (first | refine blk_drewN ?_ _ | refine blk_drew ?_ | refine blk_alloc ?_ _)); refine blk_far ?_ NB382_383.out _; (with_reducible repeat (first | refine blk_drewN ?_ _ | refine blk_drew ?_ | refine blk_alloc ?_ _)); refine blk_far ?_ NB382_383.out _; (with_reducible repeat (first | refine blk_drewN ?_ _ | refine blk_drew ?_ | refine blk_alloc ?_ _)); refine blk_far ?_ NB382_383.out _; (with_reducible repeat (first | refine blk_drewN ?_ _ | refine blk_drew ?_ | refine blk_alloc ?_ _)); refine blk_far ?_ NB382_383.out _; (with_reducible repeat (first | refine blk_drewN ?_ _ | refine blk_drew ?_ | refine blk_alloc ?_ _)); refine blk_far ?_ NB382_383.out _; (with_reducible repeat (first | refine blk_drewN ?_ _ | refine blk_drew ?_ | refine blk_alloc ?_ _)); exact BK382.out⟩
      have n1_ : Aside0 (((((((w24.setCell ⟨gb383, 0, none⟩ (.int .i64 0)).setCell ⟨gb383, 1, none⟩ (.int .i64 (wrap64 (Int.tmod a3 5)))).setCell ⟨gb383, 2, none⟩ (.int .i64 0)).setCell ⟨gb383, 3, none⟩ (.int .i64 0)).setCell ⟨gb383, 4, none⟩ (.int .i64 (wrap64 (Int.tmod a1 200)))).setCell ⟨gb383, 5, none⟩ (.int .i64 (wrap64 (Int.tmod a2 220)))).heap[gb383]? = some (.cells #[.int .i64 0, .int .i64 (wrap64 (Int.tmod a3 5)), .int .i64 0, .int .i64 0, .int .i64 (wrap64 (Int.tmod a1 200)), .int .i64 (wrap64 (Int.tmod a2 220))] 36 (0, 0))) := ⟨by (with_reducible repeat (first | refine blk_drewN ?_ _ | refine blk_drew ?_ | refine blk_alloc ?_ _)); refine blk_put (cs := #[.int .i64 0, .int .i64 (wrap64 (Int.tmod a3 5)), .int .i64 0, .int .i64 0, .int .i64 (wrap64 (Int.tmod a1 200)), .int .i64 0]) ?_ 5 _ rfl; (with_reducible repeat (first | refine blk_drewN ?_ _ | refine blk_drew ?_ | refine blk_alloc ?_ _)); refine blk_put (cs := #[.int .i64 0, .int .i64 (wrap64 (Int.tmod a3 5)), .int .i64 0, .int .i64 0, .int .i64 0, .int .i64 0]) ?_ 4 _ rfl; (with_reducible repeat (first | refine blk_drewN ?_ _ | refine blk_drew ?_ | refine blk_alloc ?_ _)); refine blk_put (cs := #[.int .i64 0, .int .i64 (wrap64 (Int.tmod a3 5)), .int .i64 0, .int .i64 0, .int .i64 0, .int .i64 0]) ?_ 3 _ rfl; (with_reducible repeat (first | refine blk_drewN ?_ _ | refine blk_drew ?_ | refine blk_alloc ?_ _)); refine blk_put (cs := #[.int .i64 0, .int .i64 (wrap64 (Int.tmod a3 5)), .int .i64 0, .int .i64 0, .int .i64 0, .int .i64 0]) ?_ 2 _ rfl; (with_reducible repeat (first | refine blk_drewN ?_ _ | refine blk_drew ?_ | refine blk_alloc ?_ _)); refine blk_put (cs := #[.int .i64 0, .int .i64 0, .int .i64 0, .int .i64 0, .int .i64 0, .int .i64 0]) ?_ 1 _ rfl; (with_reducible repeat (first | refine blk_drewN ?_ _ | refine blk_drew ?_ | refine blk_alloc ?_ _)); refine blk_put (cs := #[.int .i64 0, .int .i64 0, .int .i64 0, .int .i64 0, .int .i64 0, .int .i64 0]) ?_ 0 _ rfl; (with_reducible repeat (first | refine blk_drewN ?_ _ | refine blk_drew ?_ | refine blk_alloc ?_ _)); exact BK383.out⟩
      have n2_ : Aside0 (Below w.heap.size w ((((((w24.setCell ⟨gb383, 0, none⟩ (.int .i64 0)).setCell ⟨gb383, 1, none⟩ (.int .i64 (wrap64 (Int.tmod a3 5)))).setCell ⟨gb383, 2, none⟩ (.int .i64 0)).setCell ⟨gb383, 3, none⟩ (.int .i64 0)).setCell ⟨gb383, 4, none⟩ (.int .i64 (wrap64 (Int.tmod a1 200)))).setCell ⟨gb383, 5, none⟩ (.int .i64 (wrap64 (Int.tmod a2 220))))) := ⟨by repeat (first | (with_reducible first | exact HB.out | apply below_alloc | apply pw_below_drewN | apply below_drew1 | refine below_set ?_ GE382.out | refine below_set ?_ GE383.out) | exact HB.out)⟩
      (try clear BK382)
      (try clear BK383)
      (try clear HB)
      generalize ((((((w24.setCell ⟨gb383, 0, none⟩ (.int .i64 0)).setCell ⟨gb383, 1, none⟩ (.int .i64 (wrap64 (Int.tmod a3 5)))).setCell ⟨gb383, 2, none⟩ (.int .i64 0)).setCell ⟨gb383, 3, none⟩ (.int .i64 0)).setCell ⟨gb383, 4, none⟩ (.int .i64 (wrap64 (Int.tmod a1 200)))).setCell ⟨gb383, 5, none⟩ (.int .i64 (wrap64 (Int.tmod a2 220)))) = w27 at n0_ n1_ n2_ ⊢
      have BK382 := n0_
      have BK383 := n1_
      have HB := n2_
      clear n0_ n1_ n2_
      have n0_ := Aside0.mk (blk_drew BK382.out)
      have n1_ := Aside0.mk (blk_drew BK383.out)
      have n2_ := Aside0.mk (below_drew1 HB.out)
      clear BK382
      clear BK383
      clear HB
      have BK382 := n0_
      have BK383 := n1_
      have HB := n2_
      clear n0_ n1_ n2_
      refine start_ (n := 16) (S := fun w' => w'.cell? ⟨gb382, 0, none⟩ = some (.int .i64 a0_0) ∧ w'.cell? ⟨gb382, 1, none⟩ = some (.int .i64 a0_1) ∧ w'.cell? ⟨gb382, 2, none⟩ = some (.int .i64 a0_2) ∧ w'.cell? ⟨gb382, 3, none⟩ = some (.int .i64 a0_3) ∧ w'.cell? ⟨gb382, 4, none⟩ = some (.int .i64 a0_4) ∧ w'.cell? ⟨gb382, 5, none⟩ = some (.int .i64 a0_5)) (ds := []) #[false, false, false, false, false, false, false, false, false, false, false, false, false, false, false, false] (by kernel_rfl) rfl rfl ⟨(blk_cell BK382.out 0).trans rfl, (blk_cell BK382.out 1).trans rfl, (blk_cell BK382.out 2).trans rfl, (blk_cell BK382.out 3).trans rfl, (blk_cell BK382.out 4).trans rfl, (blk_cell BK382.out 5).trans rfl⟩ (fun hHeld => ?_); refine with_tabW insolvencylaw27_UndervalueDeficit.tab2 insolvencylaw27_UndervalueDeficit.bits2 (fun HT_ HW_ => ?_)
      generalize w27.drew = w28 at BK382 BK383 HB hHeld ⊢
      refine one_ (i := 0) (N := some 20) #[true, false, false, false, false, false, false, false, false, false, false, false, false, false, false, false] rfl rfl (one_of HT_.out (by kernel_rfl)) (by decide) (fun K hK => ?_)
      refine goes_ Try.func7 (by kernel_rfl) rfl #[] (by rfl) rfl rfl (by (try simp only [List.map_toArray, List.map_cons, List.map_nil]); first | done | rfl | (simp only [List.length_drop, List.length_take]; rfl)) ?_
      with_reducible refine (insolvencylaw27_awake.calls k  true _ A5.out).mono ?_
      rintro e w29 ⟨rfl, hb⟩
      refine ⟨_, rfl, ?_⟩
      have n0_ := Aside0.mk (blk_below (g := gb382) (o := .cells #[.int .i64 a0_0, .int .i64 a0_1, .int .i64 a0_2, .int .i64 a0_3, .int .i64 a0_4, .int .i64 a0_5] 36 (0, 0)) (by (with_reducible repeat (first | refine blk_drewN ?_ _ | refine blk_drew ?_ | refine blk_alloc ?_ _)); exact BK382.out) hb)
      have n1_ := Aside0.mk (blk_below (g := gb383) (o := .cells #[.int .i64 0, .int .i64 (wrap64 (Int.tmod a3 5)), .int .i64 0, .int .i64 0, .int .i64 (wrap64 (Int.tmod a1 200)), .int .i64 (wrap64 (Int.tmod a2 220))] 36 (0, 0)) (by (with_reducible repeat (first | refine blk_drewN ?_ _ | refine blk_drew ?_ | refine blk_alloc ?_ _)); exact BK383.out) hb)
      have n2_ := Aside0.mk (below_step (by repeat (first | (with_reducible first | exact HB.out | apply below_alloc | apply pw_below_drewN | apply below_drew1 | refine below_set ?_ GE382.out | refine below_set ?_ GE383.out) | exact HB.out)) hb)
      clear BK382
      clear BK383
      clear HB
      have BK382 := n0_
      have BK383 := n1_
      have HB := n2_
      clear n0_ n1_ n2_
      (try clear hb)
      (try clear hb2)
      (try clear hk)
      (try clear hi)
      refine hK.out _ _ ⟨(blk_cell BK382.out 0).trans rfl, (blk_cell BK382.out 1).trans rfl, (blk_cell BK382.out 2).trans rfl, (blk_cell BK382.out 3).trans rfl, (blk_cell BK382.out 4).trans rfl, (blk_cell BK382.out 5).trans rfl⟩ (fun hHeld => ?_)
      clear hK K
      refine norm_ (a' := ?_) ?_ ?_
      rotate_left
      · show Act.put _ (some 20) _ = _
        simp only [Act.put, List.setIfInBounds_toArray, List.set_cons_zero, List.set_cons_succ, i64_w, i32_w]
        rfl
      refine pure_ (i := 1) (N := some 21) (v := ?_) (a' := ?_) #[true, true, false, false, false, false, false, false, false, false, false, false, false, false, false, false] rfl rfl (any_of HT_.out (by kernel_rfl)) (fun _ _ _ h => h) (Or.inl ⟨by rfl, ?_⟩) ?_ ?_
      rotate_left
      · intro w'
        go_simp
        with_reducible rfl
      rotate_left
      · simp only [Act.put, List.setIfInBounds_toArray, List.set_cons_zero, List.set_cons_succ, i64_w, i32_w]
        rfl
      refine take_ (i := 2) (N := some 22) (v := ?_) (a' := ?_) #[true, true, true, false, false, false, false, false, false, false, false, false, false, false, false, false] rfl rfl (take_ofW HT_.out HW_.out (by kernel_rfl)) (fun _ _ _ h => h) (Or.inl ⟨by rfl, ?_⟩) hHeld ?_ ?_
      rotate_left
      · rintro w' ⟨s0, s1, s2, s3, s4, s5⟩
        go_simp
        with_reducible rfl
      rotate_left
      · simp only [Act.put, List.setIfInBounds_toArray, List.set_cons_zero, List.set_cons_succ, i64_w, i32_w]
        rfl
      refine take_ (i := 4) (N := some 24) (v := ?_) (a' := ?_) #[true, true, true, false, true, false, false, false, false, false, false, false, false, false, false, false] rfl rfl (take_ofW HT_.out HW_.out (by kernel_rfl)) (fun _ _ _ h => h) (Or.inl ⟨by rfl, ?_⟩) hHeld ?_ ?_
      rotate_left
      · rintro w' ⟨s0, s1, s2, s3, s4, s5⟩
        go_simp
        with_reducible rfl
      rotate_left
      · simp only [Act.put, List.setIfInBounds_toArray, List.set_cons_zero, List.set_cons_succ, i64_w, i32_w]
        rfl
      refine one_ (i := 3) (N := some 23) #[true, true, true, true, true, false, false, false, false, false, false, false, false, false, false, false] rfl rfl (one_of HT_.out (by kernel_rfl)) (by decide) (fun K hK => ?_)
      refine goes_ Try.func15 (by kernel_rfl) rfl #[.agg #[.int .i64 a0_0, .int .i64 a0_1, .int .i64 a0_2, .int .i64 a0_3, .int .i64 a0_4, .int .i64 a0_5]] (by rfl) rfl rfl (by (try simp only [List.map_toArray, List.map_cons, List.map_nil]); first | done | rfl | (simp only [List.length_drop, List.length_take]; rfl)) ?_
      with_reducible refine (undervalue_Deficit.calls a0_0 a0_1 a0_2 a0_3 a0_4 a0_5 t385 _ A7.out).mono ?_
      rintro e w30 ⟨rfl, hb⟩
      refine ⟨_, rfl, ?_⟩
      have n0_ := Aside0.mk (blk_below (g := gb382) (o := .cells #[.int .i64 a0_0, .int .i64 a0_1, .int .i64 a0_2, .int .i64 a0_3, .int .i64 a0_4, .int .i64 a0_5] 36 (0, 0)) (by (with_reducible repeat (first | refine blk_drewN ?_ _ | refine blk_drew ?_ | refine blk_alloc ?_ _)); exact BK382.out) hb)
      have n1_ := Aside0.mk (blk_below (g := gb383) (o := .cells #[.int .i64 0, .int .i64 (wrap64 (Int.tmod a3 5)), .int .i64 0, .int .i64 0, .int .i64 (wrap64 (Int.tmod a1 200)), .int .i64 (wrap64 (Int.tmod a2 220))] 36 (0, 0)) (by (with_reducible repeat (first | refine blk_drewN ?_ _ | refine blk_drew ?_ | refine blk_alloc ?_ _)); exact BK383.out) hb)
      have n2_ := Aside0.mk (below_step (by repeat (first | (with_reducible first | exact HB.out | apply below_alloc | apply pw_below_drewN | apply below_drew1 | refine below_set ?_ GE382.out | refine below_set ?_ GE383.out) | exact HB.out)) hb)
      clear BK382
      clear BK383
      clear HB
      have BK382 := n0_
      have BK383 := n1_
      have HB := n2_
      clear n0_ n1_ n2_
      (try clear hb)
      (try clear hb2)
      (try clear hk)
      (try clear hi)
      refine hK.out _ _ ⟨(blk_cell BK382.out 0).trans rfl, (blk_cell BK382.out 1).trans rfl, (blk_cell BK382.out 2).trans rfl, (blk_cell BK382.out 3).trans rfl, (blk_cell BK382.out 4).trans rfl, (blk_cell BK382.out 5).trans rfl⟩ (fun hHeld => ?_)
      clear hK K
      refine norm_ (a' := ?_) ?_ ?_
      rotate_left
      · show Act.put _ (some 23) _ = _
        simp only [Act.put, List.setIfInBounds_toArray, List.set_cons_zero, List.set_cons_succ, i64_w, i32_w]
        rfl
      refine one_ (i := 5) (N := some 25) #[true, true, true, true, true, true, false, false, false, false, false, false, false, false, false, false] rfl rfl (one_of HT_.out (by kernel_rfl)) (by decide) (fun K hK => ?_)
      refine goes_ Try.func16 (by kernel_rfl) rfl #[.agg #[.int .i64 a0_0, .int .i64 a0_1, .int .i64 a0_2, .int .i64 a0_3, .int .i64 a0_4, .int .i64 a0_5]] (by rfl) rfl rfl (by (try simp only [List.map_toArray, List.map_cons, List.map_nil]); first | done | rfl | (simp only [List.length_drop, List.length_take]; rfl)) ?_
      with_reducible refine (insolvencyref25_Deficit.calls k a0_0 a0_1 a0_2 a0_3 a0_4 a0_5 t386 _ A8.out).mono ?_
      rintro e w31 ⟨rfl, hb⟩
      refine ⟨_, rfl, ?_⟩
      have n0_ := Aside0.mk (blk_below (g := gb382) (o := .cells #[.int .i64 a0_0, .int .i64 a0_1, .int .i64 a0_2, .int .i64 a0_3, .int .i64 a0_4, .int .i64 a0_5] 36 (0, 0)) (by (with_reducible repeat (first | refine blk_drewN ?_ _ | refine blk_drew ?_ | refine blk_alloc ?_ _)); exact BK382.out) hb)
      have n1_ := Aside0.mk (blk_below (g := gb383) (o := .cells #[.int .i64 0, .int .i64 (wrap64 (Int.tmod a3 5)), .int .i64 0, .int .i64 0, .int .i64 (wrap64 (Int.tmod a1 200)), .int .i64 (wrap64 (Int.tmod a2 220))] 36 (0, 0)) (by (with_reducible repeat (first | refine blk_drewN ?_ _ | refine blk_drew ?_ | refine blk_alloc ?_ _)); exact BK383.out) hb)
      have n2_ := Aside0.mk (below_step (by repeat (first | (with_reducible first | exact HB.out | apply below_alloc | apply pw_below_drewN | apply below_drew1 | refine below_set ?_ GE382.out | refine below_set ?_ GE383.out) | exact HB.out)) hb)
      clear BK382
      clear BK383
      clear HB
      have BK382 := n0_
      have BK383 := n1_
      have HB := n2_
      clear n0_ n1_ n2_
      (try clear hb)
      (try clear hb2)
      (try clear hk)
      (try clear hi)
      refine hK.out _ _ ⟨(blk_cell BK382.out 0).trans rfl, (blk_cell BK382.out 1).trans rfl, (blk_cell BK382.out 2).trans rfl, (blk_cell BK382.out 3).trans rfl, (blk_cell BK382.out 4).trans rfl, (blk_cell BK382.out 5).trans rfl⟩ (fun hHeld => ?_)
      clear hK K
      refine norm_ (a' := ?_) ?_ ?_
      rotate_left
      · show Act.put _ (some 25) _ = _
        simp only [Act.put, List.setIfInBounds_toArray, List.set_cons_zero, List.set_cons_succ, i64_w, i32_w]
        rfl
      refine pure_ (i := 6) (N := some 26) (v := ?_) (a' := ?_) #[true, true, true, true, true, true, true, false, false, false, false, false, false, false, false, false] rfl rfl (any_of HT_.out (by kernel_rfl)) (fun _ _ _ h => h) (Or.inl ⟨by rfl, ?_⟩) ?_ ?_
      rotate_left
      · intro w'
        go_simp
        with_reducible rfl
      rotate_left
      · simp only [Act.put, List.setIfInBounds_toArray, List.set_cons_zero, List.set_cons_succ, i64_w, i32_w]
        rfl
      refine pure_ (i := 7) (N := some 27) (v := ?_) (a' := ?_) #[true, true, true, true, true, true, true, true, false, false, false, false, false, false, false, false] rfl rfl (any_of HT_.out (by kernel_rfl)) (fun _ _ _ h => h) (Or.inl ⟨by rfl, ?_⟩) ?_ ?_
      rotate_left
      · intro w'
        go_simp
        with_reducible rfl
      rotate_left
      · simp only [Act.put, List.setIfInBounds_toArray, List.set_cons_zero, List.set_cons_succ, i64_w, i32_w]
        rfl
      refine pure_ (i := 8) (N := some 28) (v := ?_) (a' := ?_) #[true, true, true, true, true, true, true, true, true, false, false, false, false, false, false, false] rfl rfl (any_of HT_.out (by kernel_rfl)) (fun _ _ _ h => h) (Or.inl ⟨by rfl, ?_⟩) ?_ ?_
      rotate_left
      · intro w'
        go_simp
        with_reducible rfl
      rotate_left
      · simp only [Act.put, List.setIfInBounds_toArray, List.set_cons_zero, List.set_cons_succ, i64_w, i32_w]
        rfl
      refine pure_ (i := 9) (N := some 29) (v := undef) (a' := ?_) #[true, true, true, true, true, true, true, true, true, true, false, false, false, false, false, false] rfl rfl (any_of HT_.out (by kernel_rfl)) (fun _ _ _ h => h) (Or.inr ⟨by rfl, rfl⟩) ?_ ?_
      rotate_left
      · simp only [Act.put, List.setIfInBounds_toArray, List.set_cons_zero, List.set_cons_succ, i64_w, i32_w]
        rfl
      refine pure_ (i := 10) (N := some 30) (v := undef) (a' := ?_) #[true, true, true, true, true, true, true, true, true, true, true, false, false, false, false, false] rfl rfl (any_of HT_.out (by kernel_rfl)) (fun _ _ _ h => h) (Or.inr ⟨by rfl, rfl⟩) ?_ ?_
      rotate_left
      · simp only [Act.put, List.setIfInBounds_toArray, List.set_cons_zero, List.set_cons_succ, i64_w, i32_w]
        rfl
      refine pure_ (i := 11) (N := some 31) (v := undef) (a' := ?_) #[true, true, true, true, true, true, true, true, true, true, true, true, false, false, false, false] rfl rfl (any_of HT_.out (by kernel_rfl)) (fun _ _ _ h => h) (Or.inr ⟨by rfl, rfl⟩) ?_ ?_
      rotate_left
      · simp only [Act.put, List.setIfInBounds_toArray, List.set_cons_zero, List.set_cons_succ, i64_w, i32_w]
        rfl
      refine pure_ (i := 12) (N := some 32) (v := undef) (a' := ?_) #[true, true, true, true, true, true, true, true, true, true, true, true, true, false, false, false] rfl rfl (any_of HT_.out (by kernel_rfl)) (fun _ _ _ h => h) (Or.inr ⟨by rfl, rfl⟩) ?_ ?_
      rotate_left
      · simp only [Act.put, List.setIfInBounds_toArray, List.set_cons_zero, List.set_cons_succ, i64_w, i32_w]
        rfl
      refine pure_ (i := 13) (N := some 33) (v := undef) (a' := ?_) #[true, true, true, true, true, true, true, true, true, true, true, true, true, true, false, false] rfl rfl (any_of HT_.out (by kernel_rfl)) (fun _ _ _ h => h) (Or.inr ⟨by rfl, rfl⟩) ?_ ?_
      rotate_left
      · simp only [Act.put, List.setIfInBounds_toArray, List.set_cons_zero, List.set_cons_succ, i64_w, i32_w]
        rfl
      refine pure_ (i := 14) (N := some 34) (v := ?_) (a' := ?_) #[true, true, true, true, true, true, true, true, true, true, true, true, true, true, true, false] rfl rfl (any_of HT_.out (by kernel_rfl)) (fun _ _ _ h => h) (Or.inl ⟨by rfl, ?_⟩) ?_ ?_
      rotate_left
      · intro w'
        go_simp
        with_reducible rfl
      rotate_left
      · simp only [Act.put, List.setIfInBounds_toArray, List.set_cons_zero, List.set_cons_succ, i64_w, i32_w]
        rfl
      refine pure_ (i := 15) (N := some 8) (v := ?_) (a' := ?_) #[true, true, true, true, true, true, true, true, true, true, true, true, true, true, true, true] rfl rfl (any_of HT_.out (by kernel_rfl)) (fun _ _ _ h => h) (Or.inl ⟨by rfl, ?_⟩) ?_ ?_
      rotate_left
      · intro w'
        go_simp
        with_reducible rfl
      rotate_left
      · simp only [Act.put, List.setIfInBounds_toArray, List.set_cons_zero, List.set_cons_succ, i64_w, i32_w]
        rfl
      refine done_ (done_of HT_.out (by kernel_rfl)) ?_
      try go_wp2
      go_ret
      exact ⟨by first | rfl | (simp [errW_none, errW_some] <;> rfl) | (simp [*, errW_none, errW_some] <;> rfl), by repeat (first | (with_reducible first | exact HB.out | apply below_alloc | apply pw_below_drewN | apply below_drew1 | refine below_set ?_ GE382.out | refine below_set ?_ GE383.out) | exact HB.out)⟩
  · replace c6 := Bool.eq_false_iff.mpr c6
    subst c6
    have H1 : (some false) = some r := by rw [if_neg (show ¬ (false = true) by decide)] at H; exact H
    clear H
    have H := H1
    clear H1
    obtain rfl := Option.some.inj H
    go_enter Try.func6, Try.ntmps6
    try go_wp2_with (first | ((with_reducible refine gate_dst (N := 4) rfl ?_); refine box_event ?hg (N := 4) ?hd (cs := #[.int .i64 a0_0, .int .i64 a0_1, .int .i64 a0_2, .int .i64 a0_3, .int .i64 a0_4, .int .i64 a0_5]) (t := 36) ?hr ?_; (case hd => rfl); (case hg => rfl); (case hr => first | (go_simp; done) | (go_simp; rfl)); intro gb382 hg w32 hbox hb; have n0_ := Aside0.mk (below_step (by repeat (first | (with_reducible first | exact HB.out | apply below_alloc | apply pw_below_drewN | apply below_drew1) | exact HB.out)) hb); have n1_ := Aside0.mk (hbox); have n2_ := Aside0.mk ((by rw [hg]; exact (below_size (by repeat (first | (with_reducible first | exact HB.out | apply below_alloc | apply pw_below_drewN | apply below_drew1) | exact HB.out))) : w.heap.size ≤ gb382)); have n3_ := Aside0.mk ((by rw [hg]; exact (below_size (by repeat (first | (with_reducible first | exact HB.out | apply below_alloc | apply pw_below_drewN | apply below_drew1) | exact HB.out))) : w.heap.size ≤ gb382)); clear HB; have HB := n0_; have BK382 := n1_; have GW382 := n2_; have GE382 := n3_; clear n0_ n1_ n2_ n3_; clear hb hbox hg) | ((with_reducible refine gate_dst (N := 9) rfl ?_); refine box_event ?hg (N := 9) ?hd (cs := #[.int .i64 0, .int .i64 0, .int .i64 0, .int .i64 0, .int .i64 0, .int .i64 0]) (t := 36) ?hr ?_; (case hd => rfl); (case hg => rfl); (case hr => first | (go_simp; done) | (go_simp; rfl)); intro gb383 hg w33 hbox hb; have n0_ := Aside0.mk (blk_below (g := gb382) (o := .cells #[.int .i64 a0_0, .int .i64 a0_1, .int .i64 a0_2, .int .i64 a0_3, .int .i64 a0_4, .int .i64 a0_5] 36 (0, 0)) (by (with_reducible repeat (first | refine blk_drewN ?_ _ | refine blk_drew ?_ | refine blk_alloc ?_ _)); exact BK382.out) hb); have n1_ := Aside0.mk (below_step (by repeat (first | (with_reducible first | exact HB.out | apply below_alloc | apply pw_below_drewN | apply below_drew1 | refine below_set ?_ GE382.out) | exact HB.out)) hb); have n2_ := Aside0.mk (hbox); have n3_ := Aside0.mk ((by rw [hg]; exact (below_size (by repeat (first | (with_reducible first | exact HB.out | apply below_alloc | apply pw_below_drewN | apply below_drew1 | refine below_set ?_ GE382.out) | exact HB.out))) : w.heap.size ≤ gb383)); have n4_ := Aside0.mk ((by rw [hg]; exact (below_size (by repeat (first | (with_reducible first | exact HB.out | apply below_alloc | apply pw_below_drewN | apply below_drew1 | refine below_set ?_ GE382.out) | exact HB.out))) : w.heap.size ≤ gb383)); have n5_ := Aside0.mk ((by rw [hg]; exact Nat.ne_of_lt (blk_lt (g := gb382) (o := .cells #[.int .i64 a0_0, .int .i64 a0_1, .int .i64 a0_2, .int .i64 a0_3, .int .i64 a0_4, .int .i64 a0_5] 36 (0, 0)) (by (with_reducible repeat (first | refine blk_drewN ?_ _ | refine blk_drew ?_ | refine blk_alloc ?_ _)); exact BK382.out)) : gb382 ≠ gb383)); have n6_ := Aside0.mk ((by rw [hg]; exact Nat.ne_of_gt (blk_lt (g := gb382) (o := .cells #[.int .i64 a0_0, .int .i64 a0_1, .int .i64 a0_2, .int .i64 a0_3, .int .i64 a0_4, .int .i64 a0_5] 36 (0, 0)) (by (with_reducible repeat (first | refine blk_drewN ?_ _ | refine blk_drew ?_ | refine blk_alloc ?_ _)); exact BK382.out)) : gb383 ≠ gb382)); clear BK382; clear HB; have BK382 := n0_; have HB := n1_; have BK383 := n2_; have GW383 := n3_; have GE383 := n4_; have NB382_383 := n5_; have NB383_382 := n6_; clear n0_ n1_ n2_ n3_ n4_ n5_ n6_; clear hb hbox hg; have hnb34 := NB383_382.out; have hnc34 := NB382_383.out; have hcz35_0 : w33.cell? ⟨gb383, 0, none⟩ = some (.int .i64 0) := (blk_cell BK383.out 0).trans rfl; have hcz35_1 : w33.cell? ⟨gb383, 1, none⟩ = some (.int .i64 0) := (blk_cell BK383.out 1).trans rfl; have hcz35_2 : w33.cell? ⟨gb383, 2, none⟩ = some (.int .i64 0) := (blk_cell BK383.out 2).trans rfl; have hcz35_3 : w33.cell? ⟨gb383, 3, none⟩ = some (.int .i64 0) := (blk_cell BK383.out 3).trans rfl; have hcz35_4 : w33.cell? ⟨gb383, 4, none⟩ = some (.int .i64 0) := (blk_cell BK383.out 4).trans rfl; have hcz35_5 : w33.cell? ⟨gb383, 5, none⟩ = some (.int .i64 0) := (blk_cell BK383.out 5).trans rfl; have hfz35_0 := blk_frozen BK383.out 0; have hfz35_1 := blk_frozen BK383.out 1; have hfz35_2 := blk_frozen BK383.out 2; have hfz35_3 := blk_frozen BK383.out 3; have hfz35_4 := blk_frozen BK383.out 4; have hfz35_5 := blk_frozen BK383.out 5))
    have n0_ : Aside0 (((((((w33.setCell ⟨gb383, 0, none⟩ (.int .i64 0)).setCell ⟨gb383, 1, none⟩ (.int .i64 (wrap64 (Int.tmod a3 5)))).setCell ⟨gb383, 2, none⟩ (.int .i64 0)).setCell ⟨gb383, 3, none⟩ (.int .i64 0)).setCell ⟨gb383, 4, none⟩ (.int .i64 (wrap64 (Int.tmod a1 200)))).setCell ⟨gb383, 5, none⟩ (.int .i64 (wrap64 (Int.tmod a2 220)))).heap[gb382]? = some (.cells #[.int .i64 a0_0, .int .i64 a0_1, .int .i64 a0_2, .int .i64 a0_3, .int .i64 a0_4, .int .i64 a0_5] 36 (0, 0))) := ⟨by (with_reducible repeat (first | refine blk_drewN ?_ _ | refine blk_drew ?_ | refine blk_alloc ?_ _)); refine blk_far ?_ NB382_383.out _; (with_reducible repeat (first | refine blk_drewN ?_ _ | refine blk_drew ?_ | refine blk_alloc ?_ _)); refine blk_far ?_ NB382_383.out _; (with_reducible repeat (first | refine blk_drewN ?_ _ | refine blk_drew ?_ | refine blk_alloc ?_ _)); refine blk_far ?_ NB382_383.out _; (with_reducible repeat (first | refine blk_drewN ?_ _ | refine blk_drew ?_ | refine blk_alloc ?_ _)); refine blk_far ?_ NB382_383.out _; (with_reducible repeat (first | refine blk_drewN ?_ _ | refine blk_drew ?_ | refine blk_alloc ?_ _)); refine blk_far ?_ NB382_383.out _; (with_reducible repeat (first | refine blk_drewN ?_ _ | refine blk_drew ?_ | refine blk_alloc ?_ _)); refine blk_far ?_ NB382_383.out _; (with_reducible repeat (first | refine blk_drewN ?_ _ | refine blk_drew ?_ | refine blk_alloc ?_ _)); exact BK382.out⟩
    have n1_ : Aside0 (((((((w33.setCell ⟨gb383, 0, none⟩ (.int .i64 0)).setCell ⟨gb383, 1, none⟩ (.int .i64 (wrap64 (Int.tmod a3 5)))).setCell ⟨gb383, 2, none⟩ (.int .i64 0)).setCell ⟨gb383, 3, none⟩ (.int .i64 0)).setCell ⟨gb383, 4, none⟩ (.int .i64 (wrap64 (Int.tmod a1 200)))).setCell ⟨gb383, 5, none⟩ (.int .i64 (wrap64 (Int.tmod a2 220)))).heap[gb383]? = some (.cells #[.int .i64 0, .int .i64 (wrap64 (Int.tmod a3 5)), .int .i64 0, .int .i64 0, .int .i64 (wrap64 (Int.tmod a1 200)), .int .i64 (wrap64 (Int.tmod a2 220))] 36 (0, 0))) := ⟨by (with_reducible repeat (first | refine blk_drewN ?_ _ | refine blk_drew ?_ | refine blk_alloc ?_ _)); refine blk_put (cs := #[.int .i64 0, .int .i64 (wrap64 (Int.tmod a3 5)), .int .i64 0, .int .i64 0, .int .i64 (wrap64 (Int.tmod a1 200)), .int .i64 0]) ?_ 5 _ rfl; (with_reducible repeat (first | refine blk_drewN ?_ _ | refine blk_drew ?_ | refine blk_alloc ?_ _)); refine blk_put (cs := #[.int .i64 0, .int .i64 (wrap64 (Int.tmod a3 5)), .int .i64 0, .int .i64 0, .int .i64 0, .int .i64 0]) ?_ 4 _ rfl; (with_reducible repeat (first | refine blk_drewN ?_ _ | refine blk_drew ?_ | refine blk_alloc ?_ _)); refine blk_put (cs := #[.int .i64 0, .int .i64 (wrap64 (Int.tmod a3 5)), .int .i64 0, .int .i64 0, .int .i64 0, .int .i64 0]) ?_ 3 _ rfl; (with_reducible repeat (first | refine blk_drewN ?_ _ | refine blk_drew ?_ | refine blk_alloc ?_ _)); refine blk_put (cs := #[.int .i64 0, .int .i64 (wrap64 (Int.tmod a3 5)), .int .i64 0, .int .i64 0, .int .i64 0, .int .i64 0]) ?_ 2 _ rfl; (with_reducible repeat (first | refine blk_drewN ?_ _ | refine blk_drew ?_ | refine blk_alloc ?_ _)); refine blk_put (cs := #[.int .i64 0, .int .i64 0, .int .i64 0, .int .i64 0, .int .i64 0, .int .i64 0]) ?_ 1 _ rfl; (with_reducible repeat (first | refine blk_drewN ?_ _ | refine blk_drew ?_ | refine blk_alloc ?_ _)); refine blk_put (cs := #[.int .i64 0, .int .i64 0, .int .i64 0, .int .i64 0, .int .i64 0, .int .i64 0]) ?_ 0 _ rfl; (with_reducible repeat (first | refine blk_drewN ?_ _ | refine blk_drew ?_ | refine blk_alloc ?_ _)); exact BK383.out⟩
    have n2_ : Aside0 (Below w.heap.size w ((((((w33.setCell ⟨gb383, 0, none⟩ (.int .i64 0)).setCell ⟨gb383, 1, none⟩ (.int .i64 (wrap64 (Int.tmod a3 5)))).setCell ⟨gb383, 2, none⟩ (.int .i64 0)).setCell ⟨gb383, 3, none⟩ (.int .i64 0)).setCell ⟨gb383, 4, none⟩ (.int .i64 (wrap64 (Int.tmod a1 200)))).setCell ⟨gb383, 5, none⟩ (.int .i64 (wrap64 (Int.tmod a2 220))))) := ⟨by repeat (first | (with_reducible first | exact HB.out | apply below_alloc | apply pw_below_drewN | apply below_drew1 | refine below_set ?_ GE382.out | refine below_set ?_ GE383.out) | exact HB.out)⟩
    (try clear BK382)
    (try clear BK383)
    (try clear HB)
    generalize ((((((w33.setCell ⟨gb383, 0, none⟩ (.int .i64 0)).setCell ⟨gb383, 1, none⟩ (.int .i64 (wrap64 (Int.tmod a3 5)))).setCell ⟨gb383, 2, none⟩ (.int .i64 0)).setCell ⟨gb383, 3, none⟩ (.int .i64 0)).setCell ⟨gb383, 4, none⟩ (.int .i64 (wrap64 (Int.tmod a1 200)))).setCell ⟨gb383, 5, none⟩ (.int .i64 (wrap64 (Int.tmod a2 220)))) = w36 at n0_ n1_ n2_ ⊢
    have BK382 := n0_
    have BK383 := n1_
    have HB := n2_
    clear n0_ n1_ n2_
    have n0_ := Aside0.mk (blk_drew BK382.out)
    have n1_ := Aside0.mk (blk_drew BK383.out)
    have n2_ := Aside0.mk (below_drew1 HB.out)
    clear BK382
    clear BK383
    clear HB
    have BK382 := n0_
    have BK383 := n1_
    have HB := n2_
    clear n0_ n1_ n2_
    refine start_ (n := 16) (S := fun w' => True) (ds := []) #[false, false, false, false, false, false, false, false, false, false, false, false, false, false, false, false] (by kernel_rfl) rfl rfl trivial (fun hHeld => ?_); refine with_tabW insolvencylaw27_UndervalueDeficit.tab2 insolvencylaw27_UndervalueDeficit.bits2 (fun HT_ HW_ => ?_)
    generalize w36.drew = w37 at BK382 BK383 HB hHeld ⊢
    refine one_ (i := 0) (N := some 20) #[true, false, false, false, false, false, false, false, false, false, false, false, false, false, false, false] rfl rfl (one_of HT_.out (by kernel_rfl)) (by decide) (fun K hK => ?_)
    refine goes_ Try.func7 (by kernel_rfl) rfl #[] (by rfl) rfl rfl (by (try simp only [List.map_toArray, List.map_cons, List.map_nil]); first | done | rfl | (simp only [List.length_drop, List.length_take]; rfl)) ?_
    with_reducible refine (insolvencylaw27_awake.calls k  false _ A5.out).mono ?_
    rintro e w38 ⟨rfl, hb⟩
    refine ⟨_, rfl, ?_⟩
    have n0_ := Aside0.mk (blk_below (g := gb382) (o := .cells #[.int .i64 a0_0, .int .i64 a0_1, .int .i64 a0_2, .int .i64 a0_3, .int .i64 a0_4, .int .i64 a0_5] 36 (0, 0)) (by (with_reducible repeat (first | refine blk_drewN ?_ _ | refine blk_drew ?_ | refine blk_alloc ?_ _)); exact BK382.out) hb)
    have n1_ := Aside0.mk (blk_below (g := gb383) (o := .cells #[.int .i64 0, .int .i64 (wrap64 (Int.tmod a3 5)), .int .i64 0, .int .i64 0, .int .i64 (wrap64 (Int.tmod a1 200)), .int .i64 (wrap64 (Int.tmod a2 220))] 36 (0, 0)) (by (with_reducible repeat (first | refine blk_drewN ?_ _ | refine blk_drew ?_ | refine blk_alloc ?_ _)); exact BK383.out) hb)
    have n2_ := Aside0.mk (below_step (by repeat (first | (with_reducible first | exact HB.out | apply below_alloc | apply pw_below_drewN | apply below_drew1 | refine below_set ?_ GE382.out | refine below_set ?_ GE383.out) | exact HB.out)) hb)
    clear BK382
    clear BK383
    clear HB
    have BK382 := n0_
    have BK383 := n1_
    have HB := n2_
    clear n0_ n1_ n2_
    (try clear hb)
    (try clear hb2)
    (try clear hk)
    (try clear hi)
    refine hK.out _ _ trivial (fun hHeld => ?_)
    clear hK K
    refine norm_ (a' := ?_) ?_ ?_
    rotate_left
    · show Act.put _ (some 20) _ = _
      simp only [Act.put, List.setIfInBounds_toArray, List.set_cons_zero, List.set_cons_succ, i64_w, i32_w]
      rfl
    refine pure_ (i := 1) (N := some 21) (v := ?_) (a' := ?_) #[true, true, false, false, false, false, false, false, false, false, false, false, false, false, false, false] rfl rfl (any_of HT_.out (by kernel_rfl)) (fun _ _ _ h => h) (Or.inl ⟨by rfl, ?_⟩) ?_ ?_
    rotate_left
    · intro w'
      go_simp
      with_reducible rfl
    rotate_left
    · simp only [Act.put, List.setIfInBounds_toArray, List.set_cons_zero, List.set_cons_succ, i64_w, i32_w]
      rfl
    refine pure_ (i := 2) (N := some 22) (v := undef) (a' := ?_) #[true, true, true, false, false, false, false, false, false, false, false, false, false, false, false, false] rfl rfl (any_of HT_.out (by kernel_rfl)) (fun _ _ _ h => h) (Or.inr ⟨by rfl, rfl⟩) ?_ ?_
    rotate_left
    · simp only [Act.put, List.setIfInBounds_toArray, List.set_cons_zero, List.set_cons_succ, i64_w, i32_w]
      rfl
    refine pure_ (i := 3) (N := some 23) (v := undef) (a' := ?_) #[true, true, true, true, false, false, false, false, false, false, false, false, false, false, false, false] rfl rfl (any_of HT_.out (by kernel_rfl)) (fun _ _ _ h => h) (Or.inr ⟨by rfl, rfl⟩) ?_ ?_
    rotate_left
    · simp only [Act.put, List.setIfInBounds_toArray, List.set_cons_zero, List.set_cons_succ, i64_w, i32_w]
      rfl
    refine pure_ (i := 4) (N := some 24) (v := undef) (a' := ?_) #[true, true, true, true, true, false, false, false, false, false, false, false, false, false, false, false] rfl rfl (any_of HT_.out (by kernel_rfl)) (fun _ _ _ h => h) (Or.inr ⟨by rfl, rfl⟩) ?_ ?_
    rotate_left
    · simp only [Act.put, List.setIfInBounds_toArray, List.set_cons_zero, List.set_cons_succ, i64_w, i32_w]
      rfl
    refine pure_ (i := 5) (N := some 25) (v := undef) (a' := ?_) #[true, true, true, true, true, true, false, false, false, false, false, false, false, false, false, false] rfl rfl (any_of HT_.out (by kernel_rfl)) (fun _ _ _ h => h) (Or.inr ⟨by rfl, rfl⟩) ?_ ?_
    rotate_left
    · simp only [Act.put, List.setIfInBounds_toArray, List.set_cons_zero, List.set_cons_succ, i64_w, i32_w]
      rfl
    refine pure_ (i := 6) (N := some 26) (v := undef) (a' := ?_) #[true, true, true, true, true, true, true, false, false, false, false, false, false, false, false, false] rfl rfl (any_of HT_.out (by kernel_rfl)) (fun _ _ _ h => h) (Or.inr ⟨by rfl, rfl⟩) ?_ ?_
    rotate_left
    · simp only [Act.put, List.setIfInBounds_toArray, List.set_cons_zero, List.set_cons_succ, i64_w, i32_w]
      rfl
    refine pure_ (i := 7) (N := some 27) (v := ?_) (a' := ?_) #[true, true, true, true, true, true, true, true, false, false, false, false, false, false, false, false] rfl rfl (any_of HT_.out (by kernel_rfl)) (fun _ _ _ h => h) (Or.inl ⟨by rfl, ?_⟩) ?_ ?_
    rotate_left
    · intro w'
      go_simp
      with_reducible rfl
    rotate_left
    · simp only [Act.put, List.setIfInBounds_toArray, List.set_cons_zero, List.set_cons_succ, i64_w, i32_w]
      rfl
    refine pure_ (i := 8) (N := some 28) (v := ?_) (a' := ?_) #[true, true, true, true, true, true, true, true, true, false, false, false, false, false, false, false] rfl rfl (any_of HT_.out (by kernel_rfl)) (fun _ _ _ h => h) (Or.inl ⟨by rfl, ?_⟩) ?_ ?_
    rotate_left
    · intro w'
      go_simp
      with_reducible rfl
    rotate_left
    · simp only [Act.put, List.setIfInBounds_toArray, List.set_cons_zero, List.set_cons_succ, i64_w, i32_w]
      rfl
    refine pure_ (i := 9) (N := some 29) (v := undef) (a' := ?_) #[true, true, true, true, true, true, true, true, true, true, false, false, false, false, false, false] rfl rfl (any_of HT_.out (by kernel_rfl)) (fun _ _ _ h => h) (Or.inr ⟨by rfl, rfl⟩) ?_ ?_
    rotate_left
    · simp only [Act.put, List.setIfInBounds_toArray, List.set_cons_zero, List.set_cons_succ, i64_w, i32_w]
      rfl
    refine pure_ (i := 10) (N := some 30) (v := undef) (a' := ?_) #[true, true, true, true, true, true, true, true, true, true, true, false, false, false, false, false] rfl rfl (any_of HT_.out (by kernel_rfl)) (fun _ _ _ h => h) (Or.inr ⟨by rfl, rfl⟩) ?_ ?_
    rotate_left
    · simp only [Act.put, List.setIfInBounds_toArray, List.set_cons_zero, List.set_cons_succ, i64_w, i32_w]
      rfl
    refine pure_ (i := 11) (N := some 31) (v := undef) (a' := ?_) #[true, true, true, true, true, true, true, true, true, true, true, true, false, false, false, false] rfl rfl (any_of HT_.out (by kernel_rfl)) (fun _ _ _ h => h) (Or.inr ⟨by rfl, rfl⟩) ?_ ?_
    rotate_left
    · simp only [Act.put, List.setIfInBounds_toArray, List.set_cons_zero, List.set_cons_succ, i64_w, i32_w]
      rfl
    refine pure_ (i := 12) (N := some 32) (v := undef) (a' := ?_) #[true, true, true, true, true, true, true, true, true, true, true, true, true, false, false, false] rfl rfl (any_of HT_.out (by kernel_rfl)) (fun _ _ _ h => h) (Or.inr ⟨by rfl, rfl⟩) ?_ ?_
    rotate_left
    · simp only [Act.put, List.setIfInBounds_toArray, List.set_cons_zero, List.set_cons_succ, i64_w, i32_w]
      rfl
    refine pure_ (i := 13) (N := some 33) (v := undef) (a' := ?_) #[true, true, true, true, true, true, true, true, true, true, true, true, true, true, false, false] rfl rfl (any_of HT_.out (by kernel_rfl)) (fun _ _ _ h => h) (Or.inr ⟨by rfl, rfl⟩) ?_ ?_
    rotate_left
    · simp only [Act.put, List.setIfInBounds_toArray, List.set_cons_zero, List.set_cons_succ, i64_w, i32_w]
      rfl
    refine pure_ (i := 14) (N := some 34) (v := ?_) (a' := ?_) #[true, true, true, true, true, true, true, true, true, true, true, true, true, true, true, false] rfl rfl (any_of HT_.out (by kernel_rfl)) (fun _ _ _ h => h) (Or.inl ⟨by rfl, ?_⟩) ?_ ?_
    rotate_left
    · intro w'
      go_simp
      with_reducible rfl
    rotate_left
    · simp only [Act.put, List.setIfInBounds_toArray, List.set_cons_zero, List.set_cons_succ, i64_w, i32_w]
      rfl
    refine pure_ (i := 15) (N := some 8) (v := ?_) (a' := ?_) #[true, true, true, true, true, true, true, true, true, true, true, true, true, true, true, true] rfl rfl (any_of HT_.out (by kernel_rfl)) (fun _ _ _ h => h) (Or.inl ⟨by rfl, ?_⟩) ?_ ?_
    rotate_left
    · intro w'
      go_simp
      with_reducible rfl
    rotate_left
    · simp only [Act.put, List.setIfInBounds_toArray, List.set_cons_zero, List.set_cons_succ, i64_w, i32_w]
      rfl
    refine done_ (done_of HT_.out (by kernel_rfl)) ?_
    try go_wp2
    go_ret
    exact ⟨by first | rfl | (simp [errW_none, errW_some] <;> rfl) | (simp [*, errW_none, errW_some] <;> rfl), by repeat (first | (with_reducible first | exact HB.out | apply below_alloc | apply pw_below_drewN | apply below_drew1 | refine below_set ?_ GE382.out | refine below_set ?_ GE383.out) | exact HB.out)⟩

end Go.Proofs.Ytljenpakncmlkaa.PAll
