-- PRINTED by a session's own changed print
import Derived.Test.YtljenpakncmlkaaPAllx0
import Derived.Test.YtljenpakncmlkaaPAllx6
import Derived.Test.YtljenpakncmlkaaPAllx8
namespace Go.Proofs.Ytljenpakncmlkaa.PAll
open Go.RowKit Go.Proofs.YtljenpakncmlkaaW.PrintWords Go.Proofs.YtljenpakncmlkaaW.PrintLast
set_option linter.unusedVariables false
set_option linter.unusedSimpArgs false

/-! ### insolvencyref1_Minus: function 37 -/
def insolvencyref1_Minus.f (k : Nat) (a0_0 : Bool) (a0_1 : ByteArray) (a0_2 : ByteArray) (a1_0 : Bool) (a1_1 : ByteArray) (a1_2 : ByteArray) : Option (Bool × ByteArray × ByteArray) := (insolvencyref1_Opposite.f a1_0 a1_1 a1_2).bind fun bt348 => ((insolvencyref1_Plus.f k a0_0 a0_1 a0_2 bt348.1 bt348.2.1 bt348.2.2).bind fun bt351 => (some (bt351.1, bt351.2.1, bt351.2.2)))
theorem insolvencyref1_Minus.mono : ∀ a0 a1 a2 a3 a4 a5 k, LeO (insolvencyref1_Minus.f k a0 a1 a2 a3 a4 a5) (insolvencyref1_Minus.f (k + 1) a0 a1 a2 a3 a4 a5) := by
  intro a0 a1 a2 a3 a4 a5 k
  unfold insolvencyref1_Minus.f
  repeat' first
      | (with_reducible exact insolvencyref1_Plus.mono _ _ _ _ _ _ _)
      | (with_reducible exact LeO.refl _)
      | (with_reducible exact LeO.none _)
      | (with_reducible refine LeO.ite ?_ ?_)
      | (with_reducible refine LeO.bind ?_ (fun _ => ?_))
      | exact insolvencyref1_Plus.mono _ _ _ _ _ _ _
      | exact LeO.none _
      | refine LeO.ite ?_ ?_
      | refine LeO.bind ?_ (fun _ => ?_)
set_option maxHeartbeats 8000000 in
set_option maxRecDepth 100000 in
theorem insolvencyref1_Minus.calls (k : Nat) (a0_0 : Bool) (a0_1 : ByteArray) (a0_2 : ByteArray) (a1_0 : Bool) (a1_1 : ByteArray) (a1_2 : ByteArray) (r1 : Bool) (r2 : ByteArray) (r3 : ByteArray) (w : World) (h : insolvencyref1_Minus.f k a0_0 a0_1 a0_2 a1_0 a1_1 a1_2 = some (r1, r2, r3)) :
    Calls Try.prog 37 #[.agg #[.bool a0_0, .string a0_1, .string a0_2], .agg #[.bool a1_0, .string a1_1, .string a1_2]] w fun e w' => e = .returned (.agg #[.bool r1, .string r2, .string r3]) ∧ Below w.heap.size w w' := by
  have hu54 := Try.underlying54
  have HB := Aside0.mk (Below.refl w.heap.size w)
  have H : ((insolvencyref1_Opposite.f a1_0 a1_1 a1_2).bind fun bt348 => ((insolvencyref1_Plus.f k a0_0 a0_1 a0_2 bt348.1 bt348.2.1 bt348.2.2).bind fun bt351 => (some (bt351.1, bt351.2.1, bt351.2.2)))) = some (r1, r2, r3) := h
  clear h
  replace H := Option.bind_eq_some_iff.mp H
  obtain ⟨⟨t348, t349, t350⟩, A30, H⟩ := H
  replace H : ((insolvencyref1_Plus.f k a0_0 a0_1 a0_2 t348 t349 t350).bind fun bt351 => (some (bt351.1, bt351.2.1, bt351.2.2))) = some (r1, r2, r3) := H
  have A3 := Aside0.mk A30
  clear A30
  replace H := Option.bind_eq_some_iff.mp H
  obtain ⟨⟨t351, t352, t353⟩, A40, H⟩ := H
  replace H : (some (t351, t352, t353)) = some (r1, r2, r3) := H
  have A4 := Aside0.mk A40
  clear A40
  simp only [Option.some.injEq, Prod.mk.injEq] at H
  obtain ⟨rfl, rfl, rfl⟩ := H
  go_enter Try.func37, Try.ntmps37
  try go_wp2_with (first | ((with_reducible refine gate_dst (N := 2) rfl ?_); refine box_event ?hg (N := 2) ?hd (cs := #[.bool a0_0, .string a0_1, .string a0_2]) (t := 54) ?hr ?_; (case hd => rfl); (case hg => rfl); (case hr => first | (go_simp; done) | (go_simp; rfl)); intro gb345 hg w5 hbox hb; have n0_ := Aside0.mk (below_step (by repeat (first | (with_reducible first | exact HB.out | apply below_alloc | apply pw_below_drewN | apply below_drew1) | exact HB.out)) hb); have n1_ := Aside0.mk (hbox); have n2_ := Aside0.mk ((by rw [hg]; exact (below_size (by repeat (first | (with_reducible first | exact HB.out | apply below_alloc | apply pw_below_drewN | apply below_drew1) | exact HB.out))) : w.heap.size ≤ gb345)); have n3_ := Aside0.mk ((by rw [hg]; exact (below_size (by repeat (first | (with_reducible first | exact HB.out | apply below_alloc | apply pw_below_drewN | apply below_drew1) | exact HB.out))) : w.heap.size ≤ gb345)); clear HB; have HB := n0_; have BK345 := n1_; have GW345 := n2_; have GE345 := n3_; clear n0_ n1_ n2_ n3_; clear hb hbox hg) | ((with_reducible refine gate_dst (N := 3) rfl ?_); refine box_event ?hg (N := 3) ?hd (cs := #[.bool a1_0, .string a1_1, .string a1_2]) (t := 54) ?hr ?_; (case hd => rfl); (case hg => rfl); (case hr => first | (go_simp; done) | (go_simp; rfl)); intro gb346 hg w6 hbox hb; have n0_ := Aside0.mk (blk_below (g := gb345) (o := .cells #[.bool a0_0, .string a0_1, .string a0_2] 54 (0, 0)) (by (with_reducible repeat (first | refine blk_drewN ?_ _ | refine blk_drew ?_ | refine blk_alloc ?_ _)); exact BK345.out) hb); have n1_ := Aside0.mk (below_step (by repeat (first | (with_reducible first | exact HB.out | apply below_alloc | apply pw_below_drewN | apply below_drew1 | refine below_set ?_ GE345.out) | exact HB.out)) hb); have n2_ := Aside0.mk (hbox); have n3_ := Aside0.mk ((by rw [hg]; exact (below_size (by repeat (first | (with_reducible first | exact HB.out | apply below_alloc | apply pw_below_drewN | apply below_drew1 | refine below_set ?_ GE345.out) | exact HB.out))) : w.heap.size ≤ gb346)); have n4_ := Aside0.mk ((by rw [hg]; exact (below_size (by repeat (first | (with_reducible first | exact HB.out | apply below_alloc | apply pw_below_drewN | apply below_drew1 | refine below_set ?_ GE345.out) | exact HB.out))) : w.heap.size ≤ gb346)); have n5_ := Aside0.mk ((by rw [hg]; exact Nat.ne_of_lt (blk_lt (g := gb345) (o := .cells #[.bool a0_0, .string a0_1, .string a0_2] 54 (0, 0)) (by (with_reducible repeat (first | refine blk_drewN ?_ _ | refine blk_drew ?_ | refine blk_alloc ?_ _)); exact BK345.out)) : gb345 ≠ gb346)); have n6_ := Aside0.mk ((by rw [hg]; exact Nat.ne_of_gt (blk_lt (g := gb345) (o := .cells #[.bool a0_0, .string a0_1, .string a0_2] 54 (0, 0)) (by (with_reducible repeat (first | refine blk_drewN ?_ _ | refine blk_drew ?_ | refine blk_alloc ?_ _)); exact BK345.out)) : gb346 ≠ gb345)); clear BK345; clear HB; have BK345 := n0_; have HB := n1_; have BK346 := n2_; have GW346 := n3_; have GE346 := n4_; have NB345_346 := n5_; have NB346_345 := n6_; clear n0_ n1_ n2_ n3_ n4_ n5_ n6_; clear hb hbox hg) | ((with_reducible refine gate_dst (N := 4) rfl ?_); refine box_event ?hg (N := 4) ?hd (cs := #[.bool false, .string (⟨#[]⟩ : ByteArray), .string (⟨#[]⟩ : ByteArray)]) (t := 54) ?hr ?_; (case hd => rfl); (case hg => rfl); (case hr => first | (go_simp; done) | (go_simp; rfl)); intro gb347 hg w7 hbox hb; have n0_ := Aside0.mk (blk_below (g := gb345) (o := .cells #[.bool a0_0, .string a0_1, .string a0_2] 54 (0, 0)) (by (with_reducible repeat (first | refine blk_drewN ?_ _ | refine blk_drew ?_ | refine blk_alloc ?_ _)); exact BK345.out) hb); have n1_ := Aside0.mk (blk_below (g := gb346) (o := .cells #[.bool a1_0, .string a1_1, .string a1_2] 54 (0, 0)) (by (with_reducible repeat (first | refine blk_drewN ?_ _ | refine blk_drew ?_ | refine blk_alloc ?_ _)); exact BK346.out) hb); have n2_ := Aside0.mk (below_step (by repeat (first | (with_reducible first | exact HB.out | apply below_alloc | apply pw_below_drewN | apply below_drew1 | refine below_set ?_ GE345.out | refine below_set ?_ GE346.out) | exact HB.out)) hb); have n3_ := Aside0.mk (hbox); have n4_ := Aside0.mk ((by rw [hg]; exact (below_size (by repeat (first | (with_reducible first | exact HB.out | apply below_alloc | apply pw_below_drewN | apply below_drew1 | refine below_set ?_ GE345.out | refine below_set ?_ GE346.out) | exact HB.out))) : w.heap.size ≤ gb347)); have n5_ := Aside0.mk ((by rw [hg]; exact (below_size (by repeat (first | (with_reducible first | exact HB.out | apply below_alloc | apply pw_below_drewN | apply below_drew1 | refine below_set ?_ GE345.out | refine below_set ?_ GE346.out) | exact HB.out))) : w.heap.size ≤ gb347)); have n6_ := Aside0.mk ((by rw [hg]; exact Nat.ne_of_lt (blk_lt (g := gb345) (o := .cells #[.bool a0_0, .string a0_1, .string a0_2] 54 (0, 0)) (by (with_reducible repeat (first | refine blk_drewN ?_ _ | refine blk_drew ?_ | refine blk_alloc ?_ _)); exact BK345.out)) : gb345 ≠ gb347)); have n7_ := Aside0.mk ((by rw [hg]; exact Nat.ne_of_gt (blk_lt (g := gb345) (o := .cells #[.bool a0_0, .string a0_1, .string a0_2] 54 (0, 0)) (by (with_reducible repeat (first | refine blk_drewN ?_ _ | refine blk_drew ?_ | refine blk_alloc ?_ _)); exact BK345.out)) : gb347 ≠ gb345)); have n8_ := Aside0.mk ((by rw [hg]; exact Nat.ne_of_lt (blk_lt (g := gb346) (o := .cells #[.bool a1_0, .string a1_1, .string a1_2] 54 (0, 0)) (by (with_reducible repeat (first | refine blk_drewN ?_ _ | refine blk_drew ?_ | refine blk_alloc ?_ _)); exact BK346.out)) : gb346 ≠ gb347)); have n9_ := Aside0.mk ((by rw [hg]; exact Nat.ne_of_gt (blk_lt (g := gb346) (o := .cells #[.bool a1_0, .string a1_1, .string a1_2] 54 (0, 0)) (by (with_reducible repeat (first | refine blk_drewN ?_ _ | refine blk_drew ?_ | refine blk_alloc ?_ _)); exact BK346.out)) : gb347 ≠ gb346)); clear BK345; clear BK346; clear HB; have BK345 := n0_; have BK346 := n1_; have HB := n2_; have BK347 := n3_; have GW347 := n4_; have GE347 := n5_; have NB345_347 := n6_; have NB347_345 := n7_; have NB346_347 := n8_; have NB347_346 := n9_; clear n0_ n1_ n2_ n3_ n4_ n5_ n6_ n7_ n8_ n9_; clear hb hbox hg))
  have n0_ := Aside0.mk (blk_drew BK345.out)
  have n1_ := Aside0.mk (blk_drew BK346.out)
  have n2_ := Aside0.mk (blk_drew BK347.out)
  have n3_ := Aside0.mk (below_drew1 HB.out)
  clear BK345
  clear BK346
  clear BK347
  clear HB
  have BK345 := n0_
  have BK346 := n1_
  have BK347 := n2_
  have HB := n3_
  clear n0_ n1_ n2_ n3_
  refine start_ (n := 5) (S := fun w' => w'.cell? ⟨gb345, 0, none⟩ = some (.bool a0_0) ∧ w'.cell? ⟨gb345, 1, none⟩ = some (.string a0_1) ∧ w'.cell? ⟨gb345, 2, none⟩ = some (.string a0_2) ∧ w'.cell? ⟨gb346, 0, none⟩ = some (.bool a1_0) ∧ w'.cell? ⟨gb346, 1, none⟩ = some (.string a1_1) ∧ w'.cell? ⟨gb346, 2, none⟩ = some (.string a1_2)) (ds := []) #[false, false, false, false, false] (by kernel_rfl) rfl rfl ⟨(blk_cell BK345.out 0).trans rfl, (blk_cell BK345.out 1).trans rfl, (blk_cell BK345.out 2).trans rfl, (blk_cell BK346.out 0).trans rfl, (blk_cell BK346.out 1).trans rfl, (blk_cell BK346.out 2).trans rfl⟩ (fun hHeld => ?_)
  generalize w7.drew = w8 at BK345 BK346 BK347 HB hHeld ⊢
  refine take_ (i := 0) (N := some 5) (v := ?_) (a' := ?_) #[true, false, false, false, false] rfl rfl (by kernel_rfl) (fun _ _ _ h => h) (Or.inl ⟨by rfl, ?_⟩) hHeld ?_ ?_
  rotate_left
  · rintro w' ⟨s0, s1, s2, s3, s4, s5⟩
    go_simp
    with_reducible rfl
  rotate_left
  · simp only [Act.put, List.setIfInBounds_toArray, List.set_cons_zero, List.set_cons_succ, i64_w, i32_w]
    rfl
  refine take_ (i := 1) (N := some 6) (v := ?_) (a' := ?_) #[true, true, false, false, false] rfl rfl (by kernel_rfl) (fun _ _ _ h => h) (Or.inl ⟨by rfl, ?_⟩) hHeld ?_ ?_
  rotate_left
  · rintro w' ⟨s0, s1, s2, s3, s4, s5⟩
    go_simp
    with_reducible rfl
  rotate_left
  · simp only [Act.put, List.setIfInBounds_toArray, List.set_cons_zero, List.set_cons_succ, i64_w, i32_w]
    rfl
  refine one_ (i := 2) (N := some 7) #[true, true, true, false, false] rfl rfl (by kernel_rfl) (by decide) (fun K hK => ?_)
  refine goes_ Try.func46 (by kernel_rfl) rfl #[.agg #[.bool a1_0, .string a1_1, .string a1_2]] (by rfl) rfl rfl (by (try simp only [List.map_toArray, List.map_cons, List.map_nil]); first | done | rfl | (simp only [List.length_drop, List.length_take]; rfl)) ?_
  with_reducible refine (insolvencyref1_Opposite.calls a1_0 a1_1 a1_2 t348 t349 t350 _ A3.out).mono ?_
  rintro e w9 ⟨rfl, hb⟩
  refine ⟨_, rfl, ?_⟩
  have n0_ := Aside0.mk (blk_below (g := gb345) (o := .cells #[.bool a0_0, .string a0_1, .string a0_2] 54 (0, 0)) (by (with_reducible repeat (first | refine blk_drewN ?_ _ | refine blk_drew ?_ | refine blk_alloc ?_ _)); exact BK345.out) hb)
  have n1_ := Aside0.mk (blk_below (g := gb346) (o := .cells #[.bool a1_0, .string a1_1, .string a1_2] 54 (0, 0)) (by (with_reducible repeat (first | refine blk_drewN ?_ _ | refine blk_drew ?_ | refine blk_alloc ?_ _)); exact BK346.out) hb)
  have n2_ := Aside0.mk (blk_below (g := gb347) (o := .cells #[.bool false, .string (⟨#[]⟩ : ByteArray), .string (⟨#[]⟩ : ByteArray)] 54 (0, 0)) (by (with_reducible repeat (first | refine blk_drewN ?_ _ | refine blk_drew ?_ | refine blk_alloc ?_ _)); exact BK347.out) hb)
  have n3_ := Aside0.mk (below_step (by repeat (first | (with_reducible first | exact HB.out | apply below_alloc | apply pw_below_drewN | apply below_drew1 | refine below_set ?_ GE345.out | refine below_set ?_ GE346.out | refine below_set ?_ GE347.out) | exact HB.out)) hb)
  clear BK345
  clear BK346
  clear BK347
  clear HB
  have BK345 := n0_
  have BK346 := n1_
  have BK347 := n2_
  have HB := n3_
  clear n0_ n1_ n2_ n3_
  (try clear hb)
  (try clear hb2)
  (try clear hk)
  (try clear hi)
  refine hK.out _ _ ⟨(blk_cell BK345.out 0).trans rfl, (blk_cell BK345.out 1).trans rfl, (blk_cell BK345.out 2).trans rfl, (blk_cell BK346.out 0).trans rfl, (blk_cell BK346.out 1).trans rfl, (blk_cell BK346.out 2).trans rfl⟩ (fun hHeld => ?_)
  clear hK K
  refine norm_ (a' := ?_) ?_ ?_
  rotate_left
  · show Act.put _ (some 7) _ = _
    simp only [Act.put, List.setIfInBounds_toArray, List.set_cons_zero, List.set_cons_succ, i64_w, i32_w]
    rfl
  refine one_ (i := 3) (N := some 8) #[true, true, true, true, false] rfl rfl (by kernel_rfl) (by decide) (fun K hK => ?_)
  refine goes_ Try.func45 (by kernel_rfl) rfl #[.agg #[.bool a0_0, .string a0_1, .string a0_2], .agg #[.bool t348, .string t349, .string t350]] (by rfl) rfl rfl (by (try simp only [List.map_toArray, List.map_cons, List.map_nil]); first | done | rfl | (simp only [List.length_drop, List.length_take]; rfl)) ?_
  with_reducible refine (insolvencyref1_Plus.calls k a0_0 a0_1 a0_2 t348 t349 t350 t351 t352 t353 _ A4.out).mono ?_
  rintro e w10 ⟨rfl, hb⟩
  refine ⟨_, rfl, ?_⟩
  have n0_ := Aside0.mk (blk_below (g := gb345) (o := .cells #[.bool a0_0, .string a0_1, .string a0_2] 54 (0, 0)) (by (with_reducible repeat (first | refine blk_drewN ?_ _ | refine blk_drew ?_ | refine blk_alloc ?_ _)); exact BK345.out) hb)
  have n1_ := Aside0.mk (blk_below (g := gb346) (o := .cells #[.bool a1_0, .string a1_1, .string a1_2] 54 (0, 0)) (by (with_reducible repeat (first | refine blk_drewN ?_ _ | refine blk_drew ?_ | refine blk_alloc ?_ _)); exact BK346.out) hb)
  have n2_ := Aside0.mk (blk_below (g := gb347) (o := .cells #[.bool false, .string (⟨#[]⟩ : ByteArray), .string (⟨#[]⟩ : ByteArray)] 54 (0, 0)) (by (with_reducible repeat (first | refine blk_drewN ?_ _ | refine blk_drew ?_ | refine blk_alloc ?_ _)); exact BK347.out) hb)
  have n3_ := Aside0.mk (below_step (by repeat (first | (with_reducible first | exact HB.out | apply below_alloc | apply pw_below_drewN | apply below_drew1 | refine below_set ?_ GE345.out | refine below_set ?_ GE346.out | refine below_set ?_ GE347.out) | exact HB.out)) hb)
  clear BK345
  clear BK346
  clear BK347
  clear HB
  have BK345 := n0_
  have BK346 := n1_
  have BK347 := n2_
  have HB := n3_
  clear n0_ n1_ n2_ n3_
  (try clear hb)
  (try clear hb2)
  (try clear hk)
  (try clear hi)
  refine hK.out _ _ ⟨(blk_cell BK345.out 0).trans rfl, (blk_cell BK345.out 1).trans rfl, (blk_cell BK345.out 2).trans rfl, (blk_cell BK346.out 0).trans rfl, (blk_cell BK346.out 1).trans rfl, (blk_cell BK346.out 2).trans rfl⟩ (fun hHeld => ?_)
  clear hK K
  refine norm_ (a' := ?_) ?_ ?_
  rotate_left
  · show Act.put _ (some 8) _ = _
    simp only [Act.put, List.setIfInBounds_toArray, List.set_cons_zero, List.set_cons_succ, i64_w, i32_w]
    rfl
  refine one_ (i := 4) (N := none) #[true, true, true, true, true] rfl rfl (by kernel_rfl) (by decide) (fun K hK => ?_)
  have hs11 : w10.cell? ⟨gb347, 0, none⟩ = some (.bool false) := (blk_cell BK347.out 0).trans rfl
  have hfs11 := blk_frozen BK347.out 0
  have hns11_0 := NB345_347.out
  have hns11_1 := NB346_347.out
  have hms11_0 := NB347_345.out
  have hms11_1 := NB347_346.out
  have hs12 : w10.cell? ⟨gb347, 1, none⟩ = some (.string (⟨#[]⟩ : ByteArray)) := (blk_cell BK347.out 1).trans rfl
  have hfs12 := blk_frozen BK347.out 1
  have hns12_0 := NB345_347.out
  have hns12_1 := NB346_347.out
  have hms12_0 := NB347_345.out
  have hms12_1 := NB347_346.out
  have hs13 : w10.cell? ⟨gb347, 2, none⟩ = some (.string (⟨#[]⟩ : ByteArray)) := (blk_cell BK347.out 2).trans rfl
  have hfs13 := blk_frozen BK347.out 2
  have hns13_0 := NB345_347.out
  have hns13_1 := NB346_347.out
  have hms13_0 := NB347_345.out
  have hms13_1 := NB347_346.out
  refine skip_ (w1 := ?_) (by rfl) rfl ?_ ?_
  rotate_left
  · go_simp
    rfl
  refine hK.out _ _ ⟨((cell_far (p := ⟨gb347, _, none⟩) NB345_347.out _).trans (((cell_far (p := ⟨gb347, _, none⟩) NB345_347.out _).trans (((cell_far (p := ⟨gb347, _, none⟩) NB345_347.out _).trans (hHeld.1)))))), ((cell_far (p := ⟨gb347, _, none⟩) NB345_347.out _).trans (((cell_far (p := ⟨gb347, _, none⟩) NB345_347.out _).trans (((cell_far (p := ⟨gb347, _, none⟩) NB345_347.out _).trans (hHeld.2.1)))))), ((cell_far (p := ⟨gb347, _, none⟩) NB345_347.out _).trans (((cell_far (p := ⟨gb347, _, none⟩) NB345_347.out _).trans (((cell_far (p := ⟨gb347, _, none⟩) NB345_347.out _).trans (hHeld.2.2.1)))))), ((cell_far (p := ⟨gb347, _, none⟩) NB346_347.out _).trans (((cell_far (p := ⟨gb347, _, none⟩) NB346_347.out _).trans (((cell_far (p := ⟨gb347, _, none⟩) NB346_347.out _).trans (hHeld.2.2.2.1)))))), ((cell_far (p := ⟨gb347, _, none⟩) NB346_347.out _).trans (((cell_far (p := ⟨gb347, _, none⟩) NB346_347.out _).trans (((cell_far (p := ⟨gb347, _, none⟩) NB346_347.out _).trans (hHeld.2.2.2.2.1)))))), ((cell_far (p := ⟨gb347, _, none⟩) NB346_347.out _).trans (((cell_far (p := ⟨gb347, _, none⟩) NB346_347.out _).trans (((cell_far (p := ⟨gb347, _, none⟩) NB346_347.out _).trans (hHeld.2.2.2.2.2))))))⟩ (fun hHeld => ?_)
  clear hK K
  refine done_ (by kernel_rfl) ?_
  try go_wp2
  refine bodyPost_ret (results_cell_row rfl _ _ gb347 54 #[.bool t351, .string t352, .string t353] (0, 0) _ rfl (by (with_reducible repeat (first | refine blk_drewN ?_ _ | refine blk_drew ?_ | refine blk_alloc ?_ _)); refine blk_put (cs := #[.bool t351, .string t352, .string (⟨#[]⟩ : ByteArray)]) ?_ 2 _ rfl; (with_reducible repeat (first | refine blk_drewN ?_ _ | refine blk_drew ?_ | refine blk_alloc ?_ _)); refine blk_put (cs := #[.bool t351, .string (⟨#[]⟩ : ByteArray), .string (⟨#[]⟩ : ByteArray)]) ?_ 1 _ rfl; (with_reducible repeat (first | refine blk_drewN ?_ _ | refine blk_drew ?_ | refine blk_alloc ?_ _)); refine blk_put (cs := #[.bool false, .string (⟨#[]⟩ : ByteArray), .string (⟨#[]⟩ : ByteArray)]) ?_ 0 _ rfl; (with_reducible repeat (first | refine blk_drewN ?_ _ | refine blk_drew ?_ | refine blk_alloc ?_ _)); exact BK347.out) Try.underlying54 rfl (by kernel_rfl)) rfl ?_
  exact ⟨by first | rfl | (simp [errW_none, errW_some] <;> rfl) | (simp [*, errW_none, errW_some] <;> rfl), by repeat (first | (with_reducible first | exact HB.out | apply below_alloc | apply pw_below_drewN | apply below_drew1 | refine below_set ?_ GE345.out | refine below_set ?_ GE346.out | refine below_set ?_ GE347.out) | exact HB.out)⟩

/-! ### insolvencyref1_Less: function 25 -/
def insolvencyref1_Less.f (k : Nat) (a0_0 : Bool) (a0_1 : ByteArray) (a0_2 : ByteArray) (a1_0 : Bool) (a1_1 : ByteArray) (a1_2 : ByteArray) : Option (Bool) := (insolvencyref1_Minus.f k a0_0 a0_1 a0_2 a1_0 a1_1 a1_2).bind fun bt356 => ((insolvencyref1_Signum.f bt356.1 bt356.2.1 bt356.2.2).bind fun t359 => (some (decide (t359 < 0))))
theorem insolvencyref1_Less.mono : ∀ a0 a1 a2 a3 a4 a5 k, LeO (insolvencyref1_Less.f k a0 a1 a2 a3 a4 a5) (insolvencyref1_Less.f (k + 1) a0 a1 a2 a3 a4 a5) := by
  intro a0 a1 a2 a3 a4 a5 k
  unfold insolvencyref1_Less.f
  repeat' first
      | (with_reducible exact insolvencyref1_Minus.mono _ _ _ _ _ _ _)
      | (with_reducible exact LeO.refl _)
      | (with_reducible exact LeO.none _)
      | (with_reducible refine LeO.ite ?_ ?_)
      | (with_reducible refine LeO.bind ?_ (fun _ => ?_))
      | exact insolvencyref1_Minus.mono _ _ _ _ _ _ _
      | exact LeO.none _
      | refine LeO.ite ?_ ?_
      | refine LeO.bind ?_ (fun _ => ?_)
set_option maxHeartbeats 8000000 in
set_option maxRecDepth 100000 in
theorem insolvencyref1_Less.calls (k : Nat) (a0_0 : Bool) (a0_1 : ByteArray) (a0_2 : ByteArray) (a1_0 : Bool) (a1_1 : ByteArray) (a1_2 : ByteArray) (r : Bool) (w : World) (h : insolvencyref1_Less.f k a0_0 a0_1 a0_2 a1_0 a1_1 a1_2 = some r) :
    Calls Try.prog 25 #[.agg #[.bool a0_0, .string a0_1, .string a0_2], .agg #[.bool a1_0, .string a1_1, .string a1_2]] w fun e w' => e = .returned (.bool r) ∧ Below w.heap.size w w' := by
  have hu54 := Try.underlying54
  have HB := Aside0.mk (Below.refl w.heap.size w)
  have H : ((insolvencyref1_Minus.f k a0_0 a0_1 a0_2 a1_0 a1_1 a1_2).bind fun bt356 => ((insolvencyref1_Signum.f bt356.1 bt356.2.1 bt356.2.2).bind fun t359 => (some (decide (t359 < 0))))) = some r := h
  clear h
  replace H := Option.bind_eq_some_iff.mp H
  obtain ⟨⟨t356, t357, t358⟩, A30, H⟩ := H
  replace H : ((insolvencyref1_Signum.f t356 t357 t358).bind fun t359 => (some (decide (t359 < 0)))) = some r := H
  have A3 := Aside0.mk A30
  clear A30
  replace H := Option.bind_eq_some_iff.mp H
  obtain ⟨t359, A40, H⟩ := H
  replace H : (some (decide (t359 < 0))) = some r := H
  have A4 := Aside0.mk A40
  clear A40
  obtain rfl := Option.some.inj H
  go_enter Try.func25, Try.ntmps25
  go_wp2_with (first | ((with_reducible refine gate_dst (N := 2) rfl ?_); refine box_event ?hg (N := 2) ?hd (cs := #[.bool a0_0, .string a0_1, .string a0_2]) (t := 54) ?hr ?_; (case hd => rfl); (case hg => rfl); (case hr => first | (go_simp; done) | (go_simp; rfl)); intro gb354 hg w5 hbox hb; have n0_ := Aside0.mk (below_step (by repeat (first | (with_reducible first | exact HB.out | apply below_alloc | apply pw_below_drewN | apply below_drew1) | exact HB.out)) hb); have n1_ := Aside0.mk (hbox); have n2_ := Aside0.mk ((by rw [hg]; exact (below_size (by repeat (first | (with_reducible first | exact HB.out | apply below_alloc | apply pw_below_drewN | apply below_drew1) | exact HB.out))) : w.heap.size ≤ gb354)); have n3_ := Aside0.mk ((by rw [hg]; exact (below_size (by repeat (first | (with_reducible first | exact HB.out | apply below_alloc | apply pw_below_drewN | apply below_drew1) | exact HB.out))) : w.heap.size ≤ gb354)); clear HB; have HB := n0_; have BK354 := n1_; have GW354 := n2_; have GE354 := n3_; clear n0_ n1_ n2_ n3_; clear hb hbox hg) | ((with_reducible refine gate_dst (N := 3) rfl ?_); refine box_event ?hg (N := 3) ?hd (cs := #[.bool a1_0, .string a1_1, .string a1_2]) (t := 54) ?hr ?_; (case hd => rfl); (case hg => rfl); (case hr => first | (go_simp; done) | (go_simp; rfl)); intro gb355 hg w6 hbox hb; have n0_ := Aside0.mk (blk_below (g := gb354) (o := .cells #[.bool a0_0, .string a0_1, .string a0_2] 54 (0, 0)) (by (with_reducible repeat (first | refine blk_drewN ?_ _ | refine blk_drew ?_ | refine blk_alloc ?_ _)); exact BK354.out) hb); have n1_ := Aside0.mk (below_step (by repeat (first | (with_reducible first | exact HB.out | apply below_alloc | apply pw_below_drewN | apply below_drew1 | refine below_set ?_ GE354.out) | exact HB.out)) hb); have n2_ := Aside0.mk (hbox); have n3_ := Aside0.mk ((by rw [hg]; exact (below_size (by repeat (first | (with_reducible first | exact HB.out | apply below_alloc | apply pw_below_drewN | apply below_drew1 | refine below_set ?_ GE354.out) | exact HB.out))) : w.heap.size ≤ gb355)); have n4_ := Aside0.mk ((by rw [hg]; exact (below_size (by repeat (first | (with_reducible first | exact HB.out | apply below_alloc | apply pw_below_drewN | apply below_drew1 | refine below_set ?_ GE354.out) | exact HB.out))) : w.heap.size ≤ gb355)); have n5_ := Aside0.mk ((by rw [hg]; exact Nat.ne_of_lt (blk_lt (g := gb354) (o := .cells #[.bool a0_0, .string a0_1, .string a0_2] 54 (0, 0)) (by (with_reducible repeat (first | refine blk_drewN ?_ _ | refine blk_drew ?_ | refine blk_alloc ?_ _)); exact BK354.out)) : gb354 ≠ gb355)); have n6_ := Aside0.mk ((by rw [hg]; exact Nat.ne_of_gt (blk_lt (g := gb354) (o := .cells #[.bool a0_0, .string a0_1, .string a0_2] 54 (0, 0)) (by (with_reducible repeat (first | refine blk_drewN ?_ _ | refine blk_drew ?_ | refine blk_alloc ?_ _)); exact BK354.out)) : gb355 ≠ gb354)); clear BK354; clear HB; have BK354 := n0_; have HB := n1_; have BK355 := n2_; have GW355 := n3_; have GE355 := n4_; have NB354_355 := n5_; have NB355_354 := n6_; clear n0_ n1_ n2_ n3_ n4_ n5_ n6_; clear hb hbox hg; have hnb7 := NB354_355.out; have hnc7 := NB355_354.out; have hcz8_0 : w6.cell? ⟨gb354, 0, none⟩ = some (.bool a0_0) := (blk_cell BK354.out 0).trans rfl; have hcz8_1 : w6.cell? ⟨gb354, 1, none⟩ = some (.string a0_1) := (blk_cell BK354.out 1).trans rfl; have hcz8_2 : w6.cell? ⟨gb354, 2, none⟩ = some (.string a0_2) := (blk_cell BK354.out 2).trans rfl; have hfz8_0 := blk_frozen BK354.out 0; have hfz8_1 := blk_frozen BK354.out 1; have hfz8_2 := blk_frozen BK354.out 2; have hcz9_0 : w6.cell? ⟨gb355, 0, none⟩ = some (.bool a1_0) := (blk_cell BK355.out 0).trans rfl; have hcz9_1 : w6.cell? ⟨gb355, 1, none⟩ = some (.string a1_1) := (blk_cell BK355.out 1).trans rfl; have hcz9_2 : w6.cell? ⟨gb355, 2, none⟩ = some (.string a1_2) := (blk_cell BK355.out 2).trans rfl; have hfz9_0 := blk_frozen BK355.out 0; have hfz9_1 := blk_frozen BK355.out 1; have hfz9_2 := blk_frozen BK355.out 2) | ((with_reducible refine gate_callee (f := 37) rfl ?_); refine goesL_ (some 7) rfl rfl Try.func37 (by kernel_rfl) rfl #[.agg #[.bool a0_0, .string a0_1, .string a0_2], .agg #[.bool a1_0, .string a1_1, .string a1_2]] rfl (by (try simp only [List.map_toArray, List.map_cons, List.map_nil]); first | done | rfl | (simp only [List.length_drop, List.length_take]; rfl)) ?_; (with_reducible refine (insolvencyref1_Minus.calls k a0_0 a0_1 a0_2 a1_0 a1_1 a1_2 t356 t357 t358 _ A3.out).mono ?_); rintro e w10 ⟨rfl, hb⟩; refine ⟨_, rfl, ?_⟩; have n0_ := Aside0.mk (blk_below (g := gb354) (o := .cells #[.bool a0_0, .string a0_1, .string a0_2] 54 (0, 0)) (by (with_reducible repeat (first | refine blk_drewN ?_ _ | refine blk_drew ?_ | refine blk_alloc ?_ _)); exact BK354.out) hb); have n1_ := Aside0.mk (blk_below (g := gb355) (o := .cells #[.bool a1_0, .string a1_1, .string a1_2] 54 (0, 0)) (by (with_reducible repeat (first | refine blk_drewN ?_ _ | refine blk_drew ?_ | refine blk_alloc ?_ _)); exact BK355.out) hb); have n2_ := Aside0.mk (below_step (by repeat (first | (with_reducible first | exact HB.out | apply below_alloc | apply pw_below_drewN | apply below_drew1 | refine below_set ?_ GE354.out | refine below_set ?_ GE355.out) | exact HB.out)) hb); clear BK354; clear BK355; clear HB; have BK354 := n0_; have BK355 := n1_; have HB := n2_; clear n0_ n1_ n2_; (try clear hb); (try clear hb2); (try clear hk); (try clear hi)) | ((with_reducible refine gate_callee (f := 36) rfl ?_); refine goesL_ (some 8) rfl rfl Try.func36 (by kernel_rfl) rfl #[.agg #[.bool t356, .string t357, .string t358]] rfl (by (try simp only [List.map_toArray, List.map_cons, List.map_nil]); first | done | rfl | (simp only [List.length_drop, List.length_take]; rfl)) ?_; (with_reducible refine (insolvencyref1_Signum.calls t356 t357 t358 t359 _ A4.out).mono ?_); rintro e w11 ⟨rfl, hb⟩; refine ⟨_, rfl, ?_⟩; have n0_ := Aside0.mk (blk_below (g := gb354) (o := .cells #[.bool a0_0, .string a0_1, .string a0_2] 54 (0, 0)) (by (with_reducible repeat (first | refine blk_drewN ?_ _ | refine blk_drew ?_ | refine blk_alloc ?_ _)); exact BK354.out) hb); have n1_ := Aside0.mk (blk_below (g := gb355) (o := .cells #[.bool a1_0, .string a1_1, .string a1_2] 54 (0, 0)) (by (with_reducible repeat (first | refine blk_drewN ?_ _ | refine blk_drew ?_ | refine blk_alloc ?_ _)); exact BK355.out) hb); have n2_ := Aside0.mk (below_step (by repeat (first | (with_reducible first | exact HB.out | apply below_alloc | apply pw_below_drewN | apply below_drew1 | refine below_set ?_ GE354.out | refine below_set ?_ GE355.out) | exact HB.out)) hb); clear BK354; clear BK355; clear HB; have BK354 := n0_; have BK355 := n1_; have HB := n2_; clear n0_ n1_ n2_; (try clear hb); (try clear hb2); (try clear hk); (try clear hi)))
  go_ret
  exact ⟨by first | rfl | (simp [errW_none, errW_some] <;> rfl) | (simp [*, errW_none, errW_some] <;> rfl), by repeat (first | (with_reducible first | exact HB.out | apply below_alloc | apply pw_below_drewN | apply below_drew1 | refine below_set ?_ GE354.out | refine below_set ?_ GE355.out) | exact HB.out)⟩

end Go.Proofs.Ytljenpakncmlkaa.PAll
