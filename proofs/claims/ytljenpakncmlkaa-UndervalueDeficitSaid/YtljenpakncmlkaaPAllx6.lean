-- PRINTED by a session's own changed print
import Derived.Test.YtljenpakncmlkaaPAllx0
import Derived.Test.YtljenpakncmlkaaPAllx4
import Derived.Test.YtljenpakncmlkaaPAllx5
namespace Go.Proofs.Ytljenpakncmlkaa.PAll
open Go.RowKit Go.Proofs.YtljenpakncmlkaaW.PrintWords Go.Proofs.YtljenpakncmlkaaW.PrintLast
set_option linter.unusedVariables false
set_option linter.unusedSimpArgs false

/-! ### insolvencyref1_Times: function 23 -/
def insolvencyref1_Times.j0 : Nat → Bool → Bool → ByteArray → ByteArray → Bool → ByteArray → ByteArray → Option (Bool × ByteArray × ByteArray)
  | 0, _, _, _, _, _, _, _ => none
  | k + 1, x12, x241000, x241001, x241002, x242000, x242001, x242002 => if x12 = true then (some (false, (⟨#[]⟩ : ByteArray), (⟨#[]⟩ : ByteArray))) else ((insolvencyref1_limbs.f k x241001).bind fun t243 => ((insolvencyref1_limbs.f k x242001).bind fun t246 => ((insolvencyref1_times.f k t243 t246).bind fun t249 => ((insolvencyref1_den.f k x241000 x241001 x241002).bind fun t252 => ((insolvencyref1_den.f k x242000 x242001 x242002).bind fun t255 => ((insolvencyref1_times.f k t252 t255).bind fun t258 => ((insolvencyref1_reduced.f k (x241000 != x242000) t249 t258).bind fun bt261 => (some (bt261.1, bt261.2.1, bt261.2.2)))))))))
def insolvencyref1_Times.f (k : Nat) (a0_0 : Bool) (a0_1 : ByteArray) (a0_2 : ByteArray) (a1_0 : Bool) (a1_1 : ByteArray) (a1_2 : ByteArray) : Option (Bool × ByteArray × ByteArray) := if a0_1.toList = ([] : List UInt8) then (insolvencyref1_Times.j0 k true a0_0 a0_1 a0_2 a1_0 a1_1 a1_2) else (insolvencyref1_Times.j0 k (a1_1.toList == ([] : List UInt8)) a0_0 a0_1 a0_2 a1_0 a1_1 a1_2)
theorem insolvencyref1_Times.mono_l : ∀ k, (∀ y0 y1 y2 y3 y4 y5 y6, LeO (insolvencyref1_Times.j0 k y0 y1 y2 y3 y4 y5 y6) (insolvencyref1_Times.j0 (k + 1) y0 y1 y2 y3 y4 y5 y6))
  | 0 => fun _ _ _ _ _ _ _ r h => by simp [insolvencyref1_Times.j0] at h
  | k + 1 => by
    have ih0 := insolvencyref1_Times.mono_l k
    · intro y0 y1 y2 y3 y4 y5 y6
      unfold insolvencyref1_Times.j0
      repeat' first
      | (with_reducible exact ih0 _ _ _ _ _ _ _)
      | (with_reducible exact insolvencyref1_den.mono _ _ _ _)
      | (with_reducible exact insolvencyref1_limbs.mono _ _)
      | (with_reducible exact insolvencyref1_reduced.mono _ _ _ _)
      | (with_reducible exact insolvencyref1_times.mono _ _ _)
      | (with_reducible exact LeO.refl _)
      | (with_reducible exact LeO.none _)
      | (with_reducible refine LeO.ite ?_ ?_)
      | (with_reducible refine LeO.bind ?_ (fun _ => ?_))
      | exact ih0 _ _ _ _ _ _ _
      | exact insolvencyref1_den.mono _ _ _ _
      | exact insolvencyref1_limbs.mono _ _
      | exact insolvencyref1_reduced.mono _ _ _ _
      | exact insolvencyref1_times.mono _ _ _
      | exact LeO.none _
      | refine LeO.ite ?_ ?_
      | refine LeO.bind ?_ (fun _ => ?_)
theorem insolvencyref1_Times.mono : ∀ a0 a1 a2 a3 a4 a5 k, LeO (insolvencyref1_Times.f k a0 a1 a2 a3 a4 a5) (insolvencyref1_Times.f (k + 1) a0 a1 a2 a3 a4 a5) := by
  intro a0 a1 a2 a3 a4 a5 k
  have ih0 := insolvencyref1_Times.mono_l k
  unfold insolvencyref1_Times.f
  repeat' first
      | (with_reducible exact ih0 _ _ _ _ _ _ _)
      | (with_reducible exact insolvencyref1_den.mono _ _ _ _)
      | (with_reducible exact insolvencyref1_limbs.mono _ _)
      | (with_reducible exact insolvencyref1_reduced.mono _ _ _ _)
      | (with_reducible exact insolvencyref1_times.mono _ _ _)
      | (with_reducible exact LeO.refl _)
      | (with_reducible exact LeO.none _)
      | (with_reducible refine LeO.ite ?_ ?_)
      | (with_reducible refine LeO.bind ?_ (fun _ => ?_))
      | exact ih0 _ _ _ _ _ _ _
      | exact insolvencyref1_den.mono _ _ _ _
      | exact insolvencyref1_limbs.mono _ _
      | exact insolvencyref1_reduced.mono _ _ _ _
      | exact insolvencyref1_times.mono _ _ _
      | exact LeO.none _
      | refine LeO.ite ?_ ?_
      | refine LeO.bind ?_ (fun _ => ?_)
def insolvencyref1_Times.T3 : Bool × List (List Nat × List Nat) := (true, [([], []), ([0], [0]), ([], []), ([2], [2]), ([1, 3], [1, 3]), ([], []), ([5], [5]), ([6], [6]), ([], []), ([8], [8]), ([9, 7], [9]), ([7, 10, 10], [7, 10]), ([], []), ([12, 11], [12]), ([], []), ([14, 13], [14]), ([13, 15, 15], [13, 15]), ([4, 11, 16, 16], [4, 11, 16]), ([17, 17, 0, 1, 2, 3, 4, 5, 6, 7, 8, 9, 10, 11, 12, 13, 14, 15, 16, 17], [17])])
def insolvencyref1_Times.B3 : List Nat := [0, 1, 0, 4, 15, 0, 32, 96, 0, 256, 992, 2016, 0, 8160, 0, 32736, 65504, 131071, 262143]
theorem insolvencyref1_Times.tab3 : rtab .any (opsOf Try.f23 3) = insolvencyref1_Times.T3 := by kernel_rfl
theorem insolvencyref1_Times.bits3 : waitsOk insolvencyref1_Times.T3.2 insolvencyref1_Times.B3 = true := by kernel_rfl
set_option maxHeartbeats 8000000 in
set_option maxRecDepth 100000 in
theorem insolvencyref1_Times.calls (k : Nat) (a0_0 : Bool) (a0_1 : ByteArray) (a0_2 : ByteArray) (a1_0 : Bool) (a1_1 : ByteArray) (a1_2 : ByteArray) (r1 : Bool) (r2 : ByteArray) (r3 : ByteArray) (w : World) (h : insolvencyref1_Times.f k a0_0 a0_1 a0_2 a1_0 a1_1 a1_2 = some (r1, r2, r3)) :
    Calls Try.prog 23 #[.agg #[.bool a0_0, .string a0_1, .string a0_2], .agg #[.bool a1_0, .string a1_1, .string a1_2]] w fun e w' => e = .returned (.agg #[.bool r1, .string r2, .string r3]) ∧ Below w.heap.size w w' := by
  have hu54 := Try.underlying54
  have HB := Aside0.mk (Below.refl w.heap.size w)
  have H : (if a0_1.toList = ([] : List UInt8) then (insolvencyref1_Times.j0 k true a0_0 a0_1 a0_2 a1_0 a1_1 a1_2) else (insolvencyref1_Times.j0 k (a1_1.toList == ([] : List UInt8)) a0_0 a0_1 a0_2 a1_0 a1_1 a1_2)) = some (r1, r2, r3) := h
  clear h
  have HC3 := Aside0.mk H
  clear H
  go_enter Try.func23, Try.ntmps23
  go_upto_region 1 with (first | ((with_reducible refine gate_dst (N := 2) rfl ?_); refine box_event ?hg (N := 2) ?hd (cs := #[.bool a0_0, .string a0_1, .string a0_2]) (t := 54) ?hr ?_; (case hd => rfl); (case hg => rfl); (case hr => first | (go_simp; done) | (go_simp; rfl)); intro gb240 hg w4 hbox hb; have n0_ := Aside0.mk (below_step (by repeat (first | (with_reducible first | exact HB.out | apply below_alloc | apply pw_below_drewN | apply below_drew1) | exact HB.out)) hb); have n1_ := Aside0.mk (hbox); have n2_ := Aside0.mk ((by rw [hg]; exact (below_size (by repeat (first | (with_reducible first | exact HB.out | apply below_alloc | apply pw_below_drewN | apply below_drew1) | exact HB.out))) : w.heap.size ≤ gb240)); have n3_ := Aside0.mk ((by rw [hg]; exact (below_size (by repeat (first | (with_reducible first | exact HB.out | apply below_alloc | apply pw_below_drewN | apply below_drew1) | exact HB.out))) : w.heap.size ≤ gb240)); clear HB; have HB := n0_; have BK240 := n1_; have GW240 := n2_; have GE240 := n3_; clear n0_ n1_ n2_ n3_; clear hb hbox hg) | ((with_reducible refine gate_dst (N := 3) rfl ?_); refine box_event ?hg (N := 3) ?hd (cs := #[.bool a1_0, .string a1_1, .string a1_2]) (t := 54) ?hr ?_; (case hd => rfl); (case hg => rfl); (case hr => first | (go_simp; done) | (go_simp; rfl)); intro gb241 hg w5 hbox hb; have n0_ := Aside0.mk (blk_below (g := gb240) (o := .cells #[.bool a0_0, .string a0_1, .string a0_2] 54 (0, 0)) (by (with_reducible repeat (first | refine blk_drewN ?_ _ | refine blk_drew ?_ | refine blk_alloc ?_ _)); exact BK240.out) hb); have n1_ := Aside0.mk (below_step (by repeat (first | (with_reducible first | exact HB.out | apply below_alloc | apply pw_below_drewN | apply below_drew1 | refine below_set ?_ GE240.out) | exact HB.out)) hb); have n2_ := Aside0.mk (hbox); have n3_ := Aside0.mk ((by rw [hg]; exact (below_size (by repeat (first | (with_reducible first | exact HB.out | apply below_alloc | apply pw_below_drewN | apply below_drew1 | refine below_set ?_ GE240.out) | exact HB.out))) : w.heap.size ≤ gb241)); have n4_ := Aside0.mk ((by rw [hg]; exact (below_size (by repeat (first | (with_reducible first | exact HB.out | apply below_alloc | apply pw_below_drewN | apply below_drew1 | refine below_set ?_ GE240.out) | exact HB.out))) : w.heap.size ≤ gb241)); have n5_ := Aside0.mk ((by rw [hg]; exact Nat.ne_of_lt (blk_lt (g := gb240) (o := .cells #[.bool a0_0, .string a0_1, .string a0_2] 54 (0, 0)) (by (with_reducible repeat (first | refine blk_drewN ?_ _ | refine blk_drew ?_ | refine blk_alloc ?_ _)); exact BK240.out)) : gb240 ≠ gb241)); have n6_ := Aside0.mk ((by rw [hg]; exact Nat.ne_of_gt (blk_lt (g := gb240) (o := .cells #[.bool a0_0, .string a0_1, .string a0_2] 54 (0, 0)) (by (with_reducible repeat (first | refine blk_drewN ?_ _ | refine blk_drew ?_ | refine blk_alloc ?_ _)); exact BK240.out)) : gb241 ≠ gb240)); clear BK240; clear HB; have BK240 := n0_; have HB := n1_; have BK241 := n2_; have GW241 := n3_; have GE241 := n4_; have NB240_241 := n5_; have NB241_240 := n6_; clear n0_ n1_ n2_ n3_ n4_ n5_ n6_; clear hb hbox hg) | ((with_reducible refine gate_dst (N := 4) rfl ?_); refine box_event ?hg (N := 4) ?hd (cs := #[.bool false, .string (⟨#[]⟩ : ByteArray), .string (⟨#[]⟩ : ByteArray)]) (t := 54) ?hr ?_; (case hd => rfl); (case hg => rfl); (case hr => first | (go_simp; done) | (go_simp; rfl)); intro gb242 hg w6 hbox hb; have n0_ := Aside0.mk (blk_below (g := gb240) (o := .cells #[.bool a0_0, .string a0_1, .string a0_2] 54 (0, 0)) (by (with_reducible repeat (first | refine blk_drewN ?_ _ | refine blk_drew ?_ | refine blk_alloc ?_ _)); exact BK240.out) hb); have n1_ := Aside0.mk (blk_below (g := gb241) (o := .cells #[.bool a1_0, .string a1_1, .string a1_2] 54 (0, 0)) (by (with_reducible repeat (first | refine blk_drewN ?_ _ | refine blk_drew ?_ | refine blk_alloc ?_ _)); exact BK241.out) hb); have n2_ := Aside0.mk (below_step (by repeat (first | (with_reducible first | exact HB.out | apply below_alloc | apply pw_below_drewN | apply below_drew1 | refine below_set ?_ GE240.out | refine below_set ?_ GE241.out) | exact HB.out)) hb); have n3_ := Aside0.mk (hbox); have n4_ := Aside0.mk ((by rw [hg]; exact (below_size (by repeat (first | (with_reducible first | exact HB.out | apply below_alloc | apply pw_below_drewN | apply below_drew1 | refine below_set ?_ GE240.out | refine below_set ?_ GE241.out) | exact HB.out))) : w.heap.size ≤ gb242)); have n5_ := Aside0.mk ((by rw [hg]; exact (below_size (by repeat (first | (with_reducible first | exact HB.out | apply below_alloc | apply pw_below_drewN | apply below_drew1 | refine below_set ?_ GE240.out | refine below_set ?_ GE241.out) | exact HB.out))) : w.heap.size ≤ gb242)); have n6_ := Aside0.mk ((by rw [hg]; exact Nat.ne_of_lt (blk_lt (g := gb240) (o := .cells #[.bool a0_0, .string a0_1, .string a0_2] 54 (0, 0)) (by (with_reducible repeat (first | refine blk_drewN ?_ _ | refine blk_drew ?_ | refine blk_alloc ?_ _)); exact BK240.out)) : gb240 ≠ gb242)); have n7_ := Aside0.mk ((by rw [hg]; exact Nat.ne_of_gt (blk_lt (g := gb240) (o := .cells #[.bool a0_0, .string a0_1, .string a0_2] 54 (0, 0)) (by (with_reducible repeat (first | refine blk_drewN ?_ _ | refine blk_drew ?_ | refine blk_alloc ?_ _)); exact BK240.out)) : gb242 ≠ gb240)); have n8_ := Aside0.mk ((by rw [hg]; exact Nat.ne_of_lt (blk_lt (g := gb241) (o := .cells #[.bool a1_0, .string a1_1, .string a1_2] 54 (0, 0)) (by (with_reducible repeat (first | refine blk_drewN ?_ _ | refine blk_drew ?_ | refine blk_alloc ?_ _)); exact BK241.out)) : gb241 ≠ gb242)); have n9_ := Aside0.mk ((by rw [hg]; exact Nat.ne_of_gt (blk_lt (g := gb241) (o := .cells #[.bool a1_0, .string a1_1, .string a1_2] 54 (0, 0)) (by (with_reducible repeat (first | refine blk_drewN ?_ _ | refine blk_drew ?_ | refine blk_alloc ?_ _)); exact BK241.out)) : gb242 ≠ gb241)); clear BK240; clear BK241; clear HB; have BK240 := n0_; have BK241 := n1_; have HB := n2_; have BK242 := n3_; have GW242 := n4_; have GE242 := n5_; have NB240_242 := n6_; have NB242_240 := n7_; have NB241_242 := n8_; have NB242_241 := n9_; clear n0_ n1_ n2_ n3_ n4_ n5_ n6_ n7_ n8_ n9_; clear hb hbox hg))
  (try simp only [Act.put, List.setIfInBounds_toArray, List.set_cons_zero, List.set_cons_succ])
  go_cut [12] (fun v12 wc => ∃ (kq : Nat) (x12_2 : Bool), v12 = .bool x12_2 ∧ Aside0 (insolvencyref1_Times.j0 kq x12_2 a0_0 a0_1 a0_2 a1_0 a1_1 a1_2 = some (r1, r2, r3)) ∧ Aside0 (kq ≤ k) ∧ Aside0 (wc.heap[gb240]? = some (.cells #[.bool a0_0, .string a0_1, .string a0_2] 54 (0, 0))) ∧ Aside0 (wc.heap[gb241]? = some (.cells #[.bool a1_0, .string a1_1, .string a1_2] 54 (0, 0))) ∧ Aside0 (wc.heap[gb242]? = some (.cells #[.bool false, .string (⟨#[]⟩ : ByteArray), .string (⟨#[]⟩ : ByteArray)] 54 (0, 0))) ∧ Aside0 (Below w.heap.size w wc))
  case first =>
    have H := HC3.out
    clear HC3
    by_cases c7 : a0_1.toList = ([] : List UInt8)
    · rw [if_pos c7] at H
      have c7b0 : (a0_1.toList == ([] : List UInt8)) = true := beq_iff_eq.mpr c7
      have c7b1 : (a0_1.toList != ([] : List UInt8)) = false := bne_eq_false_iff_eq.mpr c7
      clear c7
      (first | rw [c7b0] | (simp only [i64_w, i32_w]; rw [c7b0]) | rw [c7b1] | skip)
      have H' := Aside0.mk H
      clear H
      have hnb8 := NB240_241.out
      have hnc8 := NB241_240.out
      have hnb9 := NB240_242.out
      have hnc9 := NB242_240.out
      have hcz10_0 : w6.cell? ⟨gb240, 0, none⟩ = some (.bool a0_0) := (blk_cell BK240.out 0).trans rfl
      have hcz10_1 : w6.cell? ⟨gb240, 1, none⟩ = some (.string a0_1) := (blk_cell BK240.out 1).trans rfl
      have hcz10_2 : w6.cell? ⟨gb240, 2, none⟩ = some (.string a0_2) := (blk_cell BK240.out 2).trans rfl
      have hfz10_0 := blk_frozen BK240.out 0
      have hfz10_1 := blk_frozen BK240.out 1
      have hfz10_2 := blk_frozen BK240.out 2
      go_wp2
      go_meet
      case rel => exact ⟨_, (true), (by first | rfl | (simp; done) | (simp [*]; done)), H', ⟨by first | omega | exact Nat.le_refl _⟩, ⟨by (with_reducible repeat (first | refine blk_drewN ?_ _ | refine blk_drew ?_ | refine blk_alloc ?_ _)); exact BK240.out⟩, ⟨by (with_reducible repeat (first | refine blk_drewN ?_ _ | refine blk_drew ?_ | refine blk_alloc ?_ _)); exact BK241.out⟩, ⟨by (with_reducible repeat (first | refine blk_drewN ?_ _ | refine blk_drew ?_ | refine blk_alloc ?_ _)); exact BK242.out⟩, ⟨by repeat (first | (with_reducible first | exact HB.out | apply below_alloc | apply pw_below_drewN | apply below_drew1 | refine below_set ?_ GE240.out | refine below_set ?_ GE241.out | refine below_set ?_ GE242.out) | exact HB.out)⟩⟩
    · rw [if_neg c7] at H
      have c7b0 : (a0_1.toList == ([] : List UInt8)) = false := beq_eq_false_iff_ne.mpr c7
      have c7b1 : (a0_1.toList != ([] : List UInt8)) = true := bne_iff_ne.mpr c7
      (first | rw [c7b0] | (simp only [i64_w, i32_w]; rw [c7b0]) | rw [c7b1] | skip)
      have H' := Aside0.mk H
      clear H
      have hnb11 := NB240_241.out
      have hnc11 := NB241_240.out
      have hnb12 := NB240_242.out
      have hnc12 := NB242_240.out
      have hcz13_0 : w6.cell? ⟨gb240, 0, none⟩ = some (.bool a0_0) := (blk_cell BK240.out 0).trans rfl
      have hcz13_1 : w6.cell? ⟨gb240, 1, none⟩ = some (.string a0_1) := (blk_cell BK240.out 1).trans rfl
      have hcz13_2 : w6.cell? ⟨gb240, 2, none⟩ = some (.string a0_2) := (blk_cell BK240.out 2).trans rfl
      have hfz13_0 := blk_frozen BK240.out 0
      have hfz13_1 := blk_frozen BK240.out 1
      have hfz13_2 := blk_frozen BK240.out 2
      have hnb14 := NB241_242.out
      have hnc14 := NB242_241.out
      have hcz15_0 : w6.cell? ⟨gb241, 0, none⟩ = some (.bool a1_0) := (blk_cell BK241.out 0).trans rfl
      have hcz15_1 : w6.cell? ⟨gb241, 1, none⟩ = some (.string a1_1) := (blk_cell BK241.out 1).trans rfl
      have hcz15_2 : w6.cell? ⟨gb241, 2, none⟩ = some (.string a1_2) := (blk_cell BK241.out 2).trans rfl
      have hfz15_0 := blk_frozen BK241.out 0
      have hfz15_1 := blk_frozen BK241.out 1
      have hfz15_2 := blk_frozen BK241.out 2
      go_wp2
      go_meet
      case rel => exact ⟨_, ((a1_1.toList == ([] : List UInt8))), (by first | rfl | (simp; done) | (simp [*]; done)), H', ⟨by first | omega | exact Nat.le_refl _⟩, ⟨by (with_reducible repeat (first | refine blk_drewN ?_ _ | refine blk_drew ?_ | refine blk_alloc ?_ _)); exact BK240.out⟩, ⟨by (with_reducible repeat (first | refine blk_drewN ?_ _ | refine blk_drew ?_ | refine blk_alloc ?_ _)); exact BK241.out⟩, ⟨by (with_reducible repeat (first | refine blk_drewN ?_ _ | refine blk_drew ?_ | refine blk_alloc ?_ _)); exact BK242.out⟩, ⟨by repeat (first | (with_reducible first | exact HB.out | apply below_alloc | apply pw_below_drewN | apply below_drew1 | refine below_set ?_ GE240.out | refine below_set ?_ GE241.out | refine below_set ?_ GE242.out) | exact HB.out)⟩⟩
  case rest =>
    clear HC3
    try clear c1
    try clear c2
    try clear p2
    try clear c7
    try clear c7b0
    try clear c7b1
    try clear c8
    try clear c9
    try clear c11
    try clear c12
    try clear c14
    try clear hcz10_0
    try clear hcz10_1
    try clear hcz10_2
    try clear hcz13_0
    try clear hcz13_1
    try clear hcz13_2
    try clear hcz15_0
    try clear hcz15_1
    try clear hcz15_2
    try clear hfz10_0
    try clear hfz10_1
    try clear hfz10_2
    try clear hfz13_0
    try clear hfz13_1
    try clear hfz13_2
    try clear hfz15_0
    try clear hfz15_1
    try clear hfz15_2
    obtain ⟨kq, x12_2, rfl, HA, HJ2, BK240, BK241, BK242, HB⟩ := hcut
    cases kq with
    | zero => exact absurd HA.out (by simp [insolvencyref1_Times.j0])
    | succ kj2 =>
      have H := HA.out
      clear HA
      simp only [insolvencyref1_Times.j0] at H
      by_cases c16 : x12_2 = true
      · subst c16
        have H1 : (some (false, (⟨#[]⟩ : ByteArray), (⟨#[]⟩ : ByteArray))) = some (r1, r2, r3) := by rw [if_pos rfl] at H; exact H
        clear H
        have H := H1
        clear H1
        simp only [Option.some.injEq, Prod.mk.injEq] at H
        obtain ⟨rfl, rfl, rfl⟩ := H
        have hnb17 := NB242_240.out
        have hnc17 := NB240_242.out
        have hnb18 := NB242_241.out
        have hnc18 := NB241_242.out
        have hcz19_0 : wc.cell? ⟨gb242, 0, none⟩ = some (.bool false) := (blk_cell BK242.out 0).trans rfl
        have hcz19_1 : wc.cell? ⟨gb242, 1, none⟩ = some (.string (⟨#[]⟩ : ByteArray)) := (blk_cell BK242.out 1).trans rfl
        have hcz19_2 : wc.cell? ⟨gb242, 2, none⟩ = some (.string (⟨#[]⟩ : ByteArray)) := (blk_cell BK242.out 2).trans rfl
        have hfz19_0 := blk_frozen BK242.out 0
        have hfz19_1 := blk_frozen BK242.out 1
        have hfz19_2 := blk_frozen BK242.out 2
        go_wp2
        refine bodyPost_ret (results_cell_row rfl _ _ gb242 54 #[.bool false, .string (⟨#[]⟩ : ByteArray), .string (⟨#[]⟩ : ByteArray)] (0, 0) _ rfl (by (with_reducible repeat (first | refine blk_drewN ?_ _ | refine blk_drew ?_ | refine blk_alloc ?_ _)); refine blk_put (cs := #[.bool false, .string (⟨#[]⟩ : ByteArray), .string (⟨#[]⟩ : ByteArray)]) ?_ 2 _ rfl; (with_reducible repeat (first | refine blk_drewN ?_ _ | refine blk_drew ?_ | refine blk_alloc ?_ _)); refine blk_put (cs := #[.bool false, .string (⟨#[]⟩ : ByteArray), .string (⟨#[]⟩ : ByteArray)]) ?_ 1 _ rfl; (with_reducible repeat (first | refine blk_drewN ?_ _ | refine blk_drew ?_ | refine blk_alloc ?_ _)); refine blk_put (cs := #[.bool false, .string (⟨#[]⟩ : ByteArray), .string (⟨#[]⟩ : ByteArray)]) ?_ 0 _ rfl; (with_reducible repeat (first | refine blk_drewN ?_ _ | refine blk_drew ?_ | refine blk_alloc ?_ _)); exact BK242.out) Try.underlying54 rfl (by kernel_rfl)) rfl ?_
        exact ⟨by first | rfl | (simp [errW_none, errW_some] <;> rfl) | (simp [*, errW_none, errW_some] <;> rfl), by repeat (first | (with_reducible first | exact HB.out | apply below_alloc | apply pw_below_drewN | apply below_drew1 | refine below_set ?_ GE240.out | refine below_set ?_ GE241.out | refine below_set ?_ GE242.out) | exact HB.out)⟩
      · replace c16 := Bool.eq_false_iff.mpr c16
        subst c16
        have H1 : ((insolvencyref1_limbs.f kj2 a0_1).bind fun t243 => ((insolvencyref1_limbs.f kj2 a1_1).bind fun t246 => ((insolvencyref1_times.f kj2 t243 t246).bind fun t249 => ((insolvencyref1_den.f kj2 a0_0 a0_1 a0_2).bind fun t252 => ((insolvencyref1_den.f kj2 a1_0 a1_1 a1_2).bind fun t255 => ((insolvencyref1_times.f kj2 t252 t255).bind fun t258 => ((insolvencyref1_reduced.f kj2 (a0_0 != a1_0) t249 t258).bind fun bt261 => (some (bt261.1, bt261.2.1, bt261.2.2))))))))) = some (r1, r2, r3) := by rw [if_neg (show ¬ (false = true) by decide)] at H; exact H
        clear H
        have H := H1
        clear H1
        replace H := Option.bind_eq_some_iff.mp H
        obtain ⟨t243, A200, H⟩ := H
        replace H : ((insolvencyref1_limbs.f kj2 a1_1).bind fun t246 => ((insolvencyref1_times.f kj2 t243 t246).bind fun t249 => ((insolvencyref1_den.f kj2 a0_0 a0_1 a0_2).bind fun t252 => ((insolvencyref1_den.f kj2 a1_0 a1_1 a1_2).bind fun t255 => ((insolvencyref1_times.f kj2 t252 t255).bind fun t258 => ((insolvencyref1_reduced.f kj2 (a0_0 != a1_0) t249 t258).bind fun bt261 => (some (bt261.1, bt261.2.1, bt261.2.2)))))))) = some (r1, r2, r3) := H
        have A20 := Aside0.mk A200
        clear A200
        replace H := Option.bind_eq_some_iff.mp H
        obtain ⟨t246, A210, H⟩ := H
        replace H : ((insolvencyref1_times.f kj2 t243 t246).bind fun t249 => ((insolvencyref1_den.f kj2 a0_0 a0_1 a0_2).bind fun t252 => ((insolvencyref1_den.f kj2 a1_0 a1_1 a1_2).bind fun t255 => ((insolvencyref1_times.f kj2 t252 t255).bind fun t258 => ((insolvencyref1_reduced.f kj2 (a0_0 != a1_0) t249 t258).bind fun bt261 => (some (bt261.1, bt261.2.1, bt261.2.2))))))) = some (r1, r2, r3) := H
        have A21 := Aside0.mk A210
        clear A210
        replace H := Option.bind_eq_some_iff.mp H
        obtain ⟨t249, A220, H⟩ := H
        replace H : ((insolvencyref1_den.f kj2 a0_0 a0_1 a0_2).bind fun t252 => ((insolvencyref1_den.f kj2 a1_0 a1_1 a1_2).bind fun t255 => ((insolvencyref1_times.f kj2 t252 t255).bind fun t258 => ((insolvencyref1_reduced.f kj2 (a0_0 != a1_0) t249 t258).bind fun bt261 => (some (bt261.1, bt261.2.1, bt261.2.2)))))) = some (r1, r2, r3) := H
        have A22 := Aside0.mk A220
        clear A220
        replace H := Option.bind_eq_some_iff.mp H
        obtain ⟨t252, A230, H⟩ := H
        replace H : ((insolvencyref1_den.f kj2 a1_0 a1_1 a1_2).bind fun t255 => ((insolvencyref1_times.f kj2 t252 t255).bind fun t258 => ((insolvencyref1_reduced.f kj2 (a0_0 != a1_0) t249 t258).bind fun bt261 => (some (bt261.1, bt261.2.1, bt261.2.2))))) = some (r1, r2, r3) := H
        have A23 := Aside0.mk A230
        clear A230
        replace H := Option.bind_eq_some_iff.mp H
        obtain ⟨t255, A240, H⟩ := H
        replace H : ((insolvencyref1_times.f kj2 t252 t255).bind fun t258 => ((insolvencyref1_reduced.f kj2 (a0_0 != a1_0) t249 t258).bind fun bt261 => (some (bt261.1, bt261.2.1, bt261.2.2)))) = some (r1, r2, r3) := H
        have A24 := Aside0.mk A240
        clear A240
        replace H := Option.bind_eq_some_iff.mp H
        obtain ⟨t258, A250, H⟩ := H
        replace H : ((insolvencyref1_reduced.f kj2 (a0_0 != a1_0) t249 t258).bind fun bt261 => (some (bt261.1, bt261.2.1, bt261.2.2))) = some (r1, r2, r3) := H
        have A25 := Aside0.mk A250
        clear A250
        replace H := Option.bind_eq_some_iff.mp H
        obtain ⟨⟨t261, t262, t263⟩, A260, H⟩ := H
        replace H : (some (t261, t262, t263)) = some (r1, r2, r3) := H
        have A26 := Aside0.mk A260
        clear A260
        simp only [Option.some.injEq, Prod.mk.injEq] at H
        obtain ⟨rfl, rfl, rfl⟩ := H
        try go_wp2
        have n0_ := Aside0.mk (blk_drew BK240.out)
        have n1_ := Aside0.mk (blk_drew BK241.out)
        have n2_ := Aside0.mk (blk_drew BK242.out)
        have n3_ := Aside0.mk (below_drew1 HB.out)
        clear BK240
        clear BK241
        clear BK242
        clear HB
        have BK240 := n0_
        have BK241 := n1_
        have BK242 := n2_
        have HB := n3_
        clear n0_ n1_ n2_ n3_
        refine start_ (n := 19) (S := fun w' => w'.cell? ⟨gb240, 0, none⟩ = some (.bool a0_0) ∧ w'.cell? ⟨gb240, 1, none⟩ = some (.string a0_1) ∧ w'.cell? ⟨gb240, 2, none⟩ = some (.string a0_2) ∧ w'.cell? ⟨gb241, 0, none⟩ = some (.bool a1_0) ∧ w'.cell? ⟨gb241, 1, none⟩ = some (.string a1_1) ∧ w'.cell? ⟨gb241, 2, none⟩ = some (.string a1_2)) (ds := []) #[false, false, false, false, false, false, false, false, false, false, false, false, false, false, false, false, false, false, false] (by kernel_rfl) rfl rfl ⟨(blk_cell BK240.out 0).trans rfl, (blk_cell BK240.out 1).trans rfl, (blk_cell BK240.out 2).trans rfl, (blk_cell BK241.out 0).trans rfl, (blk_cell BK241.out 1).trans rfl, (blk_cell BK241.out 2).trans rfl⟩ (fun hHeld => ?_); refine with_tabW insolvencyref1_Times.tab3 insolvencyref1_Times.bits3 (fun HT_ HW_ => ?_)
        generalize wc.drew = w27 at BK240 BK241 BK242 HB hHeld ⊢
        refine pure_ (i := 0) (N := some 14) (v := ?_) (a' := ?_) #[true, false, false, false, false, false, false, false, false, false, false, false, false, false, false, false, false, false, false] rfl rfl (any_of HT_.out (by kernel_rfl)) (fun _ _ _ h => h) (Or.inl ⟨by rfl, ?_⟩) ?_ ?_
        rotate_left
        · intro w'
          go_simp
          with_reducible rfl
        rotate_left
        · simp only [Act.put, List.setIfInBounds_toArray, List.set_cons_zero, List.set_cons_succ, i64_w, i32_w]
          rfl
        refine pure_ (i := 2) (N := some 16) (v := ?_) (a' := ?_) #[true, false, true, false, false, false, false, false, false, false, false, false, false, false, false, false, false, false, false] rfl rfl (any_of HT_.out (by kernel_rfl)) (fun _ _ _ h => h) (Or.inl ⟨by rfl, ?_⟩) ?_ ?_
        rotate_left
        · intro w'
          go_simp
          with_reducible rfl
        rotate_left
        · simp only [Act.put, List.setIfInBounds_toArray, List.set_cons_zero, List.set_cons_succ, i64_w, i32_w]
          rfl
        refine pure_ (i := 5) (N := some 19) (v := ?_) (a' := ?_) #[true, false, true, false, false, true, false, false, false, false, false, false, false, false, false, false, false, false, false] rfl rfl (any_of HT_.out (by kernel_rfl)) (fun _ _ _ h => h) (Or.inl ⟨by rfl, ?_⟩) ?_ ?_
        rotate_left
        · intro w'
          go_simp
          with_reducible rfl
        rotate_left
        · simp only [Act.put, List.setIfInBounds_toArray, List.set_cons_zero, List.set_cons_succ, i64_w, i32_w]
          rfl
        refine pure_ (i := 8) (N := some 22) (v := ?_) (a' := ?_) #[true, false, true, false, false, true, false, false, true, false, false, false, false, false, false, false, false, false, false] rfl rfl (any_of HT_.out (by kernel_rfl)) (fun _ _ _ h => h) (Or.inl ⟨by rfl, ?_⟩) ?_ ?_
        rotate_left
        · intro w'
          go_simp
          with_reducible rfl
        rotate_left
        · simp only [Act.put, List.setIfInBounds_toArray, List.set_cons_zero, List.set_cons_succ, i64_w, i32_w]
          rfl
        refine take_ (i := 1) (N := some 15) (v := ?_) (a' := ?_) #[true, true, true, false, false, true, false, false, true, false, false, false, false, false, false, false, false, false, false] rfl rfl (take_ofW HT_.out HW_.out (by kernel_rfl)) (fun _ _ _ h => h) (Or.inl ⟨by rfl, ?_⟩) hHeld ?_ ?_
        rotate_left
        · rintro w' ⟨s0, s1, s2, s3, s4, s5⟩
          go_simp
          with_reducible rfl
        rotate_left
        · simp only [Act.put, List.setIfInBounds_toArray, List.set_cons_zero, List.set_cons_succ, i64_w, i32_w]
          rfl
        refine take_ (i := 3) (N := some 17) (v := ?_) (a' := ?_) #[true, true, true, true, false, true, false, false, true, false, false, false, false, false, false, false, false, false, false] rfl rfl (take_ofW HT_.out HW_.out (by kernel_rfl)) (fun _ _ _ h => h) (Or.inl ⟨by rfl, ?_⟩) hHeld ?_ ?_
        rotate_left
        · rintro w' ⟨s0, s1, s2, s3, s4, s5⟩
          go_simp
          with_reducible rfl
        rotate_left
        · simp only [Act.put, List.setIfInBounds_toArray, List.set_cons_zero, List.set_cons_succ, i64_w, i32_w]
          rfl
        refine pure_ (i := 4) (N := some 18) (v := ?_) (a' := ?_) #[true, true, true, true, true, true, false, false, true, false, false, false, false, false, false, false, false, false, false] rfl rfl (any_of HT_.out (by kernel_rfl)) (fun _ _ _ h => h) (Or.inl ⟨by rfl, ?_⟩) ?_ ?_
        rotate_left
        · intro w'
          go_simp
          with_reducible rfl
        rotate_left
        · simp only [Act.put, List.setIfInBounds_toArray, List.set_cons_zero, List.set_cons_succ, i64_w, i32_w]
          rfl
        refine take_ (i := 6) (N := some 20) (v := ?_) (a' := ?_) #[true, true, true, true, true, true, true, false, true, false, false, false, false, false, false, false, false, false, false] rfl rfl (take_ofW HT_.out HW_.out (by kernel_rfl)) (fun _ _ _ h => h) (Or.inl ⟨by rfl, ?_⟩) hHeld ?_ ?_
        rotate_left
        · rintro w' ⟨s0, s1, s2, s3, s4, s5⟩
          go_simp
          with_reducible rfl
        rotate_left
        · simp only [Act.put, List.setIfInBounds_toArray, List.set_cons_zero, List.set_cons_succ, i64_w, i32_w]
          rfl
        refine take_ (i := 9) (N := some 23) (v := ?_) (a' := ?_) #[true, true, true, true, true, true, true, false, true, true, false, false, false, false, false, false, false, false, false] rfl rfl (take_ofW HT_.out HW_.out (by kernel_rfl)) (fun _ _ _ h => h) (Or.inl ⟨by rfl, ?_⟩) hHeld ?_ ?_
        rotate_left
        · rintro w' ⟨s0, s1, s2, s3, s4, s5⟩
          go_simp
          with_reducible rfl
        rotate_left
        · simp only [Act.put, List.setIfInBounds_toArray, List.set_cons_zero, List.set_cons_succ, i64_w, i32_w]
          rfl
        refine take_ (i := 12) (N := some 26) (v := ?_) (a' := ?_) #[true, true, true, true, true, true, true, false, true, true, false, false, true, false, false, false, false, false, false] rfl rfl (take_ofW HT_.out HW_.out (by kernel_rfl)) (fun _ _ _ h => h) (Or.inl ⟨by rfl, ?_⟩) hHeld ?_ ?_
        rotate_left
        · rintro w' ⟨s0, s1, s2, s3, s4, s5⟩
          go_simp
          with_reducible rfl
        rotate_left
        · simp only [Act.put, List.setIfInBounds_toArray, List.set_cons_zero, List.set_cons_succ, i64_w, i32_w]
          rfl
        refine take_ (i := 14) (N := some 28) (v := ?_) (a' := ?_) #[true, true, true, true, true, true, true, false, true, true, false, false, true, false, true, false, false, false, false] rfl rfl (take_ofW HT_.out HW_.out (by kernel_rfl)) (fun _ _ _ h => h) (Or.inl ⟨by rfl, ?_⟩) hHeld ?_ ?_
        rotate_left
        · rintro w' ⟨s0, s1, s2, s3, s4, s5⟩
          go_simp
          with_reducible rfl
        rotate_left
        · simp only [Act.put, List.setIfInBounds_toArray, List.set_cons_zero, List.set_cons_succ, i64_w, i32_w]
          rfl
        refine one_ (i := 7) (N := some 21) #[true, true, true, true, true, true, true, true, true, true, false, false, true, false, true, false, false, false, false] rfl rfl (one_of HT_.out (by kernel_rfl)) (by decide) (fun K hK => ?_)
        refine goes_ Try.func32 (by kernel_rfl) rfl #[.string a0_1] (by rfl) rfl rfl (by (try simp only [List.map_toArray, List.map_cons, List.map_nil]); first | done | rfl | (simp only [List.length_drop, List.length_take]; rfl)) ?_
        with_reducible refine (insolvencyref1_limbs.calls kj2 a0_1 t243 _ A20.out).mono ?_
        rintro e w28 ⟨v244, rfl, ho0, hb⟩
        refine ⟨_, rfl, ?_⟩
        have n0_ := Aside0.mk (Kd.R_lower ho0 (below_size (by repeat (first | (with_reducible first | exact HB.out | apply below_alloc | apply pw_below_drewN | apply below_drew1 | refine below_set ?_ GE240.out | refine below_set ?_ GE241.out | refine below_set ?_ GE242.out) | exact HB.out))))
        have n1_ := Aside0.mk (blk_below (g := gb240) (o := .cells #[.bool a0_0, .string a0_1, .string a0_2] 54 (0, 0)) (by (with_reducible repeat (first | refine blk_drewN ?_ _ | refine blk_drew ?_ | refine blk_alloc ?_ _)); exact BK240.out) hb)
        have n2_ := Aside0.mk (blk_below (g := gb241) (o := .cells #[.bool a1_0, .string a1_1, .string a1_2] 54 (0, 0)) (by (with_reducible repeat (first | refine blk_drewN ?_ _ | refine blk_drew ?_ | refine blk_alloc ?_ _)); exact BK241.out) hb)
        have n3_ := Aside0.mk (blk_below (g := gb242) (o := .cells #[.bool false, .string (⟨#[]⟩ : ByteArray), .string (⟨#[]⟩ : ByteArray)] 54 (0, 0)) (by (with_reducible repeat (first | refine blk_drewN ?_ _ | refine blk_drew ?_ | refine blk_alloc ?_ _)); exact BK242.out) hb)
        have n4_ := Aside0.mk (below_step (by repeat (first | (with_reducible first | exact HB.out | apply below_alloc | apply pw_below_drewN | apply below_drew1 | refine below_set ?_ GE240.out | refine below_set ?_ GE241.out | refine below_set ?_ GE242.out) | exact HB.out)) hb)
        clear BK240
        clear BK241
        clear BK242
        clear HB
        have HO245 := n0_
        have BK240 := n1_
        have BK241 := n2_
        have BK242 := n3_
        have HB := n4_
        clear n0_ n1_ n2_ n3_ n4_
        (try clear hb)
        (try clear hb2)
        (try clear hk)
        (try clear hi)
        (try clear ho0)
        refine hK.out _ _ ⟨(blk_cell BK240.out 0).trans rfl, (blk_cell BK240.out 1).trans rfl, (blk_cell BK240.out 2).trans rfl, (blk_cell BK241.out 0).trans rfl, (blk_cell BK241.out 1).trans rfl, (blk_cell BK241.out 2).trans rfl⟩ (fun hHeld => ?_)
        clear hK K
        refine norm_ (a' := ?_) ?_ ?_
        rotate_left
        · show Act.put _ (some 21) _ = _
          simp only [Act.put, List.setIfInBounds_toArray, List.set_cons_zero, List.set_cons_succ, i64_w, i32_w]
          rfl
        refine one_ (i := 10) (N := some 24) #[true, true, true, true, true, true, true, true, true, true, true, false, true, false, true, false, false, false, false] rfl rfl (one_of HT_.out (by kernel_rfl)) (by decide) (fun K hK => ?_)
        refine goes_ Try.func32 (by kernel_rfl) rfl #[.string a1_1] (by rfl) rfl rfl (by (try simp only [List.map_toArray, List.map_cons, List.map_nil]); first | done | rfl | (simp only [List.length_drop, List.length_take]; rfl)) ?_
        with_reducible refine (insolvencyref1_limbs.calls kj2 a1_1 t246 _ A21.out).mono ?_
        rintro e w29 ⟨v247, rfl, ho0, hb⟩
        refine ⟨_, rfl, ?_⟩
        have n0_ := Aside0.mk (Kd.R_elder' (by (with_reducible repeat (first | apply Kd.R_alloc | apply Kd.R_drewN | apply Kd.R_drew)); exact HO245.out) (Kd.R_base ho0) hb)
        have n1_ := Aside0.mk (Kd.R_lower (Kd.R_new' ho0 (Kd.R_lt (by (with_reducible repeat (first | apply Kd.R_alloc | apply Kd.R_drewN | apply Kd.R_drew)); exact HO245.out))) (below_size (by repeat (first | (with_reducible first | exact HB.out | apply below_alloc | apply pw_below_drewN | apply below_drew1 | refine below_set ?_ GE240.out | refine below_set ?_ GE241.out | refine below_set ?_ GE242.out) | exact HB.out))))
        have n2_ := Aside0.mk (blk_below (g := gb240) (o := .cells #[.bool a0_0, .string a0_1, .string a0_2] 54 (0, 0)) (by (with_reducible repeat (first | refine blk_drewN ?_ _ | refine blk_drew ?_ | refine blk_alloc ?_ _)); exact BK240.out) hb)
        have n3_ := Aside0.mk (blk_below (g := gb241) (o := .cells #[.bool a1_0, .string a1_1, .string a1_2] 54 (0, 0)) (by (with_reducible repeat (first | refine blk_drewN ?_ _ | refine blk_drew ?_ | refine blk_alloc ?_ _)); exact BK241.out) hb)
        have n4_ := Aside0.mk (blk_below (g := gb242) (o := .cells #[.bool false, .string (⟨#[]⟩ : ByteArray), .string (⟨#[]⟩ : ByteArray)] 54 (0, 0)) (by (with_reducible repeat (first | refine blk_drewN ?_ _ | refine blk_drew ?_ | refine blk_alloc ?_ _)); exact BK242.out) hb)
        have n5_ := Aside0.mk (below_step (by repeat (first | (with_reducible first | exact HB.out | apply below_alloc | apply pw_below_drewN | apply below_drew1 | refine below_set ?_ GE240.out | refine below_set ?_ GE241.out | refine below_set ?_ GE242.out) | exact HB.out)) hb)
        clear HO245
        clear BK240
        clear BK241
        clear BK242
        clear HB
        have HO245 := n0_
        have HO248 := n1_
        have BK240 := n2_
        have BK241 := n3_
        have BK242 := n4_
        have HB := n5_
        clear n0_ n1_ n2_ n3_ n4_ n5_
        (try clear hb)
        (try clear hb2)
        (try clear hk)
        (try clear hi)
        (try clear ho0)
        obtain ⟨Ao30, co30, eo30⟩ := Kd.R_slice HO245.out
        (first | subst eo30 | (injection eo30 with f1_ f2_ f3_; have f4_ := f1_.symm; have f5_ := f3_.symm; clear f1_ f2_ f3_; subst f4_; subst f5_))
        obtain ⟨Ao31, co31, eo31⟩ := Kd.R_slice HO248.out
        (first | subst eo31 | (injection eo31 with f1_ f2_ f3_; have f4_ := f1_.symm; have f5_ := f3_.symm; clear f1_ f2_ f3_; subst f4_; subst f5_))
        refine hK.out _ _ ⟨(blk_cell BK240.out 0).trans rfl, (blk_cell BK240.out 1).trans rfl, (blk_cell BK240.out 2).trans rfl, (blk_cell BK241.out 0).trans rfl, (blk_cell BK241.out 1).trans rfl, (blk_cell BK241.out 2).trans rfl⟩ (fun hHeld => ?_)
        clear hK K
        refine norm_ (a' := ?_) ?_ ?_
        rotate_left
        · show Act.put _ (some 24) _ = _
          simp only [Act.put, List.setIfInBounds_toArray, List.set_cons_zero, List.set_cons_succ, i64_w, i32_w]
          rfl
        refine one_ (i := 11) (N := some 25) #[true, true, true, true, true, true, true, true, true, true, true, true, true, false, true, false, false, false, false] rfl rfl (one_of HT_.out (by kernel_rfl)) (by decide) (fun K hK => ?_)
        refine goes_ Try.func31 (by kernel_rfl) rfl #[.slice Ao30 t243.length co30, .slice Ao31 t246.length co31] (by rfl) rfl rfl (by (try simp only [List.map_toArray, List.map_cons, List.map_nil]); first | done | rfl | (simp only [List.length_drop, List.length_take]; rfl)) ?_
        with_reducible refine (insolvencyref1_times.calls kj2 _ _ t243 _ _ t246 t249 _ ?side1 ?side2 ?side3 ?side4 A22.out).mono ?_
        (case side1 => repeat (first | exact (Kd.R_reads' HO245.out).2.2 | (with_reducible refine Kd.C_alloc ?_ _) | (with_reducible refine Kd.C_drewN ?_ _) | (with_reducible refine Kd.C_drew ?_)))
        (case side2 => exact (Kd.R_reads' HO245.out).2.1)
        (case side3 => repeat (first | exact (Kd.R_reads' HO248.out).2.2 | (with_reducible refine Kd.C_alloc ?_ _) | (with_reducible refine Kd.C_drewN ?_ _) | (with_reducible refine Kd.C_drew ?_)))
        (case side4 => exact (Kd.R_reads' HO248.out).2.1)
        rintro e w32 ⟨v250, rfl, ho0, hb⟩
        refine ⟨_, rfl, ?_⟩
        have n0_ := Aside0.mk (Kd.R_below (by (with_reducible repeat (first | apply Kd.R_alloc | apply Kd.R_drewN | apply Kd.R_drew)); exact HO245.out) hb)
        have n1_ := Aside0.mk (Kd.R_below (by (with_reducible repeat (first | apply Kd.R_alloc | apply Kd.R_drewN | apply Kd.R_drew)); exact HO248.out) hb)
        have n2_ := Aside0.mk (Kd.V_lower (Kd.V_mono (ok' := fun k_ => some k_ ≠ (.slice Ao30 t243.length co30 : Value).ownBlock ∧ some k_ ≠ (.slice Ao31 t246.length co31 : Value).ownBlock ∧ k_ ≠ gb240 ∧ k_ ≠ gb241 ∧ k_ ≠ gb242) ho0 (fun k_ hk_ => ⟨(Kd.fresh' (Kd.R_lt (by (with_reducible repeat (first | apply Kd.R_alloc | apply Kd.R_drewN | apply Kd.R_drew)); exact HO245.out)) k_ hk_), (Kd.fresh' (Kd.R_lt (by (with_reducible repeat (first | apply Kd.R_alloc | apply Kd.R_drewN | apply Kd.R_drew)); exact HO248.out)) k_ hk_), (Kd.freshB (g := gb240) (o := .cells #[.bool a0_0, .string a0_1, .string a0_2] 54 (0, 0)) (by (with_reducible repeat (first | refine blk_drewN ?_ _ | refine blk_drew ?_ | refine blk_alloc ?_ _)); exact BK240.out) k_ hk_), (Kd.freshB (g := gb241) (o := .cells #[.bool a1_0, .string a1_1, .string a1_2] 54 (0, 0)) (by (with_reducible repeat (first | refine blk_drewN ?_ _ | refine blk_drew ?_ | refine blk_alloc ?_ _)); exact BK241.out) k_ hk_), (Kd.freshB (g := gb242) (o := .cells #[.bool false, .string (⟨#[]⟩ : ByteArray), .string (⟨#[]⟩ : ByteArray)] 54 (0, 0)) (by (with_reducible repeat (first | refine blk_drewN ?_ _ | refine blk_drew ?_ | refine blk_alloc ?_ _)); exact BK242.out) k_ hk_)⟩)) (below_size (by repeat (first | (with_reducible first | exact HB.out | apply below_alloc | apply pw_below_drewN | apply below_drew1 | refine below_set ?_ GE240.out | refine below_set ?_ GE241.out | refine below_set ?_ GE242.out) | exact HB.out))))
        have n3_ := Aside0.mk (blk_below (g := gb240) (o := .cells #[.bool a0_0, .string a0_1, .string a0_2] 54 (0, 0)) (by (with_reducible repeat (first | refine blk_drewN ?_ _ | refine blk_drew ?_ | refine blk_alloc ?_ _)); exact BK240.out) hb)
        have n4_ := Aside0.mk (blk_below (g := gb241) (o := .cells #[.bool a1_0, .string a1_1, .string a1_2] 54 (0, 0)) (by (with_reducible repeat (first | refine blk_drewN ?_ _ | refine blk_drew ?_ | refine blk_alloc ?_ _)); exact BK241.out) hb)
        have n5_ := Aside0.mk (blk_below (g := gb242) (o := .cells #[.bool false, .string (⟨#[]⟩ : ByteArray), .string (⟨#[]⟩ : ByteArray)] 54 (0, 0)) (by (with_reducible repeat (first | refine blk_drewN ?_ _ | refine blk_drew ?_ | refine blk_alloc ?_ _)); exact BK242.out) hb)
        have n6_ := Aside0.mk (below_step (by repeat (first | (with_reducible first | exact HB.out | apply below_alloc | apply pw_below_drewN | apply below_drew1 | refine below_set ?_ GE240.out | refine below_set ?_ GE241.out | refine below_set ?_ GE242.out) | exact HB.out)) hb)
        clear HO245
        clear HO248
        clear BK240
        clear BK241
        clear BK242
        clear HB
        have HO245 := n0_
        have HO248 := n1_
        have HO251 := n2_
        have BK240 := n3_
        have BK241 := n4_
        have BK242 := n5_
        have HB := n6_
        clear n0_ n1_ n2_ n3_ n4_ n5_ n6_
        (try clear hb)
        (try clear hb2)
        (try clear hk)
        (try clear hi)
        (try clear ho0)
        refine hK.out _ _ ⟨(blk_cell BK240.out 0).trans rfl, (blk_cell BK240.out 1).trans rfl, (blk_cell BK240.out 2).trans rfl, (blk_cell BK241.out 0).trans rfl, (blk_cell BK241.out 1).trans rfl, (blk_cell BK241.out 2).trans rfl⟩ (fun hHeld => ?_)
        clear hK K
        refine norm_ (a' := ?_) ?_ ?_
        rotate_left
        · show Act.put _ (some 25) _ = _
          simp only [Act.put, List.setIfInBounds_toArray, List.set_cons_zero, List.set_cons_succ, i64_w, i32_w]
          rfl
        refine one_ (i := 13) (N := some 27) #[true, true, true, true, true, true, true, true, true, true, true, true, true, true, true, false, false, false, false] rfl rfl (one_of HT_.out (by kernel_rfl)) (by decide) (fun K hK => ?_)
        refine goes_ Try.func33 (by kernel_rfl) rfl #[.agg #[.bool a0_0, .string a0_1, .string a0_2]] (by rfl) rfl rfl (by (try simp only [List.map_toArray, List.map_cons, List.map_nil]); first | done | rfl | (simp only [List.length_drop, List.length_take]; rfl)) ?_
        with_reducible refine (insolvencyref1_den.calls kj2 a0_0 a0_1 a0_2 t252 _ A23.out).mono ?_
        rintro e w33 ⟨v253, rfl, ho0, hb⟩
        refine ⟨_, rfl, ?_⟩
        have n0_ := Aside0.mk (Kd.R_elder' (by (with_reducible repeat (first | apply Kd.R_alloc | apply Kd.R_drewN | apply Kd.R_drew)); exact HO245.out) (Kd.R_base ho0) hb)
        have n1_ := Aside0.mk (Kd.R_elder' (by (with_reducible repeat (first | apply Kd.R_alloc | apply Kd.R_drewN | apply Kd.R_drew)); exact HO248.out) (Kd.R_base ho0) hb)
        have n2_ := Aside0.mk (Kd.V_elder' (by (with_reducible repeat (first | apply Kd.V_alloc | apply Kd.V_drewN | apply Kd.V_drew)); exact HO251.out) (Kd.R_base ho0) hb)
        have n3_ := Aside0.mk (Kd.R_lower (Kd.R_new' (Kd.R_new' ho0 (Kd.R_lt (by (with_reducible repeat (first | apply Kd.R_alloc | apply Kd.R_drewN | apply Kd.R_drew)); exact HO245.out))) (Kd.R_lt (by (with_reducible repeat (first | apply Kd.R_alloc | apply Kd.R_drewN | apply Kd.R_drew)); exact HO248.out))) (below_size (by repeat (first | (with_reducible first | exact HB.out | apply below_alloc | apply pw_below_drewN | apply below_drew1 | refine below_set ?_ GE240.out | refine below_set ?_ GE241.out | refine below_set ?_ GE242.out) | exact HB.out))))
        have n4_ := Aside0.mk (blk_below (g := gb240) (o := .cells #[.bool a0_0, .string a0_1, .string a0_2] 54 (0, 0)) (by (with_reducible repeat (first | refine blk_drewN ?_ _ | refine blk_drew ?_ | refine blk_alloc ?_ _)); exact BK240.out) hb)
        have n5_ := Aside0.mk (blk_below (g := gb241) (o := .cells #[.bool a1_0, .string a1_1, .string a1_2] 54 (0, 0)) (by (with_reducible repeat (first | refine blk_drewN ?_ _ | refine blk_drew ?_ | refine blk_alloc ?_ _)); exact BK241.out) hb)
        have n6_ := Aside0.mk (blk_below (g := gb242) (o := .cells #[.bool false, .string (⟨#[]⟩ : ByteArray), .string (⟨#[]⟩ : ByteArray)] 54 (0, 0)) (by (with_reducible repeat (first | refine blk_drewN ?_ _ | refine blk_drew ?_ | refine blk_alloc ?_ _)); exact BK242.out) hb)
        have n7_ := Aside0.mk (below_step (by repeat (first | (with_reducible first | exact HB.out | apply below_alloc | apply pw_below_drewN | apply below_drew1 | refine below_set ?_ GE240.out | refine below_set ?_ GE241.out | refine below_set ?_ GE242.out) | exact HB.out)) hb)
        clear HO245
        clear HO248
        clear HO251
        clear BK240
        clear BK241
        clear BK242
        clear HB
        have HO245 := n0_
        have HO248 := n1_
        have HO251 := n2_
        have HO254 := n3_
        have BK240 := n4_
        have BK241 := n5_
        have BK242 := n6_
        have HB := n7_
        clear n0_ n1_ n2_ n3_ n4_ n5_ n6_ n7_
        (try clear hb)
        (try clear hb2)
        (try clear hk)
        (try clear hi)
        (try clear ho0)
        refine hK.out _ _ ⟨(blk_cell BK240.out 0).trans rfl, (blk_cell BK240.out 1).trans rfl, (blk_cell BK240.out 2).trans rfl, (blk_cell BK241.out 0).trans rfl, (blk_cell BK241.out 1).trans rfl, (blk_cell BK241.out 2).trans rfl⟩ (fun hHeld => ?_)
        clear hK K
        refine norm_ (a' := ?_) ?_ ?_
        rotate_left
        · show Act.put _ (some 27) _ = _
          simp only [Act.put, List.setIfInBounds_toArray, List.set_cons_zero, List.set_cons_succ, i64_w, i32_w]
          rfl
        refine one_ (i := 15) (N := some 29) #[true, true, true, true, true, true, true, true, true, true, true, true, true, true, true, true, false, false, false] rfl rfl (one_of HT_.out (by kernel_rfl)) (by decide) (fun K hK => ?_)
        refine goes_ Try.func33 (by kernel_rfl) rfl #[.agg #[.bool a1_0, .string a1_1, .string a1_2]] (by rfl) rfl rfl (by (try simp only [List.map_toArray, List.map_cons, List.map_nil]); first | done | rfl | (simp only [List.length_drop, List.length_take]; rfl)) ?_
        with_reducible refine (insolvencyref1_den.calls kj2 a1_0 a1_1 a1_2 t255 _ A24.out).mono ?_
        rintro e w34 ⟨v256, rfl, ho0, hb⟩
        refine ⟨_, rfl, ?_⟩
        have n0_ := Aside0.mk (Kd.R_elder' (by (with_reducible repeat (first | apply Kd.R_alloc | apply Kd.R_drewN | apply Kd.R_drew)); exact HO245.out) (Kd.R_base ho0) hb)
        have n1_ := Aside0.mk (Kd.R_elder' (by (with_reducible repeat (first | apply Kd.R_alloc | apply Kd.R_drewN | apply Kd.R_drew)); exact HO248.out) (Kd.R_base ho0) hb)
        have n2_ := Aside0.mk (Kd.V_elder' (by (with_reducible repeat (first | apply Kd.V_alloc | apply Kd.V_drewN | apply Kd.V_drew)); exact HO251.out) (Kd.R_base ho0) hb)
        have n3_ := Aside0.mk (Kd.R_elder' (by (with_reducible repeat (first | apply Kd.R_alloc | apply Kd.R_drewN | apply Kd.R_drew)); exact HO254.out) (Kd.R_base ho0) hb)
        have n4_ := Aside0.mk (Kd.R_lower (Kd.R_new' (Kd.R_new' (Kd.R_new' ho0 (Kd.R_lt (by (with_reducible repeat (first | apply Kd.R_alloc | apply Kd.R_drewN | apply Kd.R_drew)); exact HO245.out))) (Kd.R_lt (by (with_reducible repeat (first | apply Kd.R_alloc | apply Kd.R_drewN | apply Kd.R_drew)); exact HO248.out))) (Kd.R_lt (by (with_reducible repeat (first | apply Kd.R_alloc | apply Kd.R_drewN | apply Kd.R_drew)); exact HO254.out))) (below_size (by repeat (first | (with_reducible first | exact HB.out | apply below_alloc | apply pw_below_drewN | apply below_drew1 | refine below_set ?_ GE240.out | refine below_set ?_ GE241.out | refine below_set ?_ GE242.out) | exact HB.out))))
        have n5_ := Aside0.mk (blk_below (g := gb240) (o := .cells #[.bool a0_0, .string a0_1, .string a0_2] 54 (0, 0)) (by (with_reducible repeat (first | refine blk_drewN ?_ _ | refine blk_drew ?_ | refine blk_alloc ?_ _)); exact BK240.out) hb)
        have n6_ := Aside0.mk (blk_below (g := gb241) (o := .cells #[.bool a1_0, .string a1_1, .string a1_2] 54 (0, 0)) (by (with_reducible repeat (first | refine blk_drewN ?_ _ | refine blk_drew ?_ | refine blk_alloc ?_ _)); exact BK241.out) hb)
        have n7_ := Aside0.mk (blk_below (g := gb242) (o := .cells #[.bool false, .string (⟨#[]⟩ : ByteArray), .string (⟨#[]⟩ : ByteArray)] 54 (0, 0)) (by (with_reducible repeat (first | refine blk_drewN ?_ _ | refine blk_drew ?_ | refine blk_alloc ?_ _)); exact BK242.out) hb)
        have n8_ := Aside0.mk (below_step (by repeat (first | (with_reducible first | exact HB.out | apply below_alloc | apply pw_below_drewN | apply below_drew1 | refine below_set ?_ GE240.out | refine below_set ?_ GE241.out | refine below_set ?_ GE242.out) | exact HB.out)) hb)
        clear HO245
        clear HO248
        clear HO251
        clear HO254
        clear BK240
        clear BK241
        clear BK242
        clear HB
        have HO245 := n0_
        have HO248 := n1_
        have HO251 := n2_
        have HO254 := n3_
        have HO257 := n4_
        have BK240 := n5_
        have BK241 := n6_
        have BK242 := n7_
        have HB := n8_
        clear n0_ n1_ n2_ n3_ n4_ n5_ n6_ n7_ n8_
        (try clear hb)
        (try clear hb2)
        (try clear hk)
        (try clear hi)
        (try clear ho0)
        obtain ⟨Ao35, co35, eo35⟩ := Kd.R_slice HO254.out
        (first | subst eo35 | (injection eo35 with f1_ f2_ f3_; have f4_ := f1_.symm; have f5_ := f3_.symm; clear f1_ f2_ f3_; subst f4_; subst f5_))
        obtain ⟨Ao36, co36, eo36⟩ := Kd.R_slice HO257.out
        (first | subst eo36 | (injection eo36 with f1_ f2_ f3_; have f4_ := f1_.symm; have f5_ := f3_.symm; clear f1_ f2_ f3_; subst f4_; subst f5_))
        refine hK.out _ _ ⟨(blk_cell BK240.out 0).trans rfl, (blk_cell BK240.out 1).trans rfl, (blk_cell BK240.out 2).trans rfl, (blk_cell BK241.out 0).trans rfl, (blk_cell BK241.out 1).trans rfl, (blk_cell BK241.out 2).trans rfl⟩ (fun hHeld => ?_)
        clear hK K
        refine norm_ (a' := ?_) ?_ ?_
        rotate_left
        · show Act.put _ (some 29) _ = _
          simp only [Act.put, List.setIfInBounds_toArray, List.set_cons_zero, List.set_cons_succ, i64_w, i32_w]
          rfl
        refine one_ (i := 16) (N := some 30) #[true, true, true, true, true, true, true, true, true, true, true, true, true, true, true, true, true, false, false] rfl rfl (one_of HT_.out (by kernel_rfl)) (by decide) (fun K hK => ?_)
        refine goes_ Try.func31 (by kernel_rfl) rfl #[.slice Ao35 t252.length co35, .slice Ao36 t255.length co36] (by rfl) rfl rfl (by (try simp only [List.map_toArray, List.map_cons, List.map_nil]); first | done | rfl | (simp only [List.length_drop, List.length_take]; rfl)) ?_
        with_reducible refine (insolvencyref1_times.calls kj2 _ _ t252 _ _ t255 t258 _ ?side1 ?side2 ?side3 ?side4 A25.out).mono ?_
        (case side1 => repeat (first | exact (Kd.R_reads' HO254.out).2.2 | (with_reducible refine Kd.C_alloc ?_ _) | (with_reducible refine Kd.C_drewN ?_ _) | (with_reducible refine Kd.C_drew ?_)))
        (case side2 => exact (Kd.R_reads' HO254.out).2.1)
        (case side3 => repeat (first | exact (Kd.R_reads' HO257.out).2.2 | (with_reducible refine Kd.C_alloc ?_ _) | (with_reducible refine Kd.C_drewN ?_ _) | (with_reducible refine Kd.C_drew ?_)))
        (case side4 => exact (Kd.R_reads' HO257.out).2.1)
        rintro e w37 ⟨v259, rfl, ho0, hb⟩
        refine ⟨_, rfl, ?_⟩
        have n0_ := Aside0.mk (Kd.R_below (by (with_reducible repeat (first | apply Kd.R_alloc | apply Kd.R_drewN | apply Kd.R_drew)); exact HO245.out) hb)
        have n1_ := Aside0.mk (Kd.R_below (by (with_reducible repeat (first | apply Kd.R_alloc | apply Kd.R_drewN | apply Kd.R_drew)); exact HO248.out) hb)
        have n2_ := Aside0.mk (Kd.V_below (by (with_reducible repeat (first | apply Kd.V_alloc | apply Kd.V_drewN | apply Kd.V_drew)); exact HO251.out) hb)
        have n3_ := Aside0.mk (Kd.R_below (by (with_reducible repeat (first | apply Kd.R_alloc | apply Kd.R_drewN | apply Kd.R_drew)); exact HO254.out) hb)
        have n4_ := Aside0.mk (Kd.R_below (by (with_reducible repeat (first | apply Kd.R_alloc | apply Kd.R_drewN | apply Kd.R_drew)); exact HO257.out) hb)
        have n5_ := Aside0.mk (Kd.V_lower (Kd.V_mono (ok' := fun k_ => some k_ ≠ (.slice Ao30 t243.length co30 : Value).ownBlock ∧ some k_ ≠ (.slice Ao31 t246.length co31 : Value).ownBlock ∧ some k_ ≠ (.slice Ao35 t252.length co35 : Value).ownBlock ∧ some k_ ≠ (.slice Ao36 t255.length co36 : Value).ownBlock ∧ k_ ≠ gb240 ∧ k_ ≠ gb241 ∧ k_ ≠ gb242) ho0 (fun k_ hk_ => ⟨(Kd.fresh' (Kd.R_lt (by (with_reducible repeat (first | apply Kd.R_alloc | apply Kd.R_drewN | apply Kd.R_drew)); exact HO245.out)) k_ hk_), (Kd.fresh' (Kd.R_lt (by (with_reducible repeat (first | apply Kd.R_alloc | apply Kd.R_drewN | apply Kd.R_drew)); exact HO248.out)) k_ hk_), (Kd.fresh' (Kd.R_lt (by (with_reducible repeat (first | apply Kd.R_alloc | apply Kd.R_drewN | apply Kd.R_drew)); exact HO254.out)) k_ hk_), (Kd.fresh' (Kd.R_lt (by (with_reducible repeat (first | apply Kd.R_alloc | apply Kd.R_drewN | apply Kd.R_drew)); exact HO257.out)) k_ hk_), (Kd.freshB (g := gb240) (o := .cells #[.bool a0_0, .string a0_1, .string a0_2] 54 (0, 0)) (by (with_reducible repeat (first | refine blk_drewN ?_ _ | refine blk_drew ?_ | refine blk_alloc ?_ _)); exact BK240.out) k_ hk_), (Kd.freshB (g := gb241) (o := .cells #[.bool a1_0, .string a1_1, .string a1_2] 54 (0, 0)) (by (with_reducible repeat (first | refine blk_drewN ?_ _ | refine blk_drew ?_ | refine blk_alloc ?_ _)); exact BK241.out) k_ hk_), (Kd.freshB (g := gb242) (o := .cells #[.bool false, .string (⟨#[]⟩ : ByteArray), .string (⟨#[]⟩ : ByteArray)] 54 (0, 0)) (by (with_reducible repeat (first | refine blk_drewN ?_ _ | refine blk_drew ?_ | refine blk_alloc ?_ _)); exact BK242.out) k_ hk_)⟩)) (below_size (by repeat (first | (with_reducible first | exact HB.out | apply below_alloc | apply pw_below_drewN | apply below_drew1 | refine below_set ?_ GE240.out | refine below_set ?_ GE241.out | refine below_set ?_ GE242.out) | exact HB.out))))
        have n6_ := Aside0.mk (blk_below (g := gb240) (o := .cells #[.bool a0_0, .string a0_1, .string a0_2] 54 (0, 0)) (by (with_reducible repeat (first | refine blk_drewN ?_ _ | refine blk_drew ?_ | refine blk_alloc ?_ _)); exact BK240.out) hb)
        have n7_ := Aside0.mk (blk_below (g := gb241) (o := .cells #[.bool a1_0, .string a1_1, .string a1_2] 54 (0, 0)) (by (with_reducible repeat (first | refine blk_drewN ?_ _ | refine blk_drew ?_ | refine blk_alloc ?_ _)); exact BK241.out) hb)
        have n8_ := Aside0.mk (blk_below (g := gb242) (o := .cells #[.bool false, .string (⟨#[]⟩ : ByteArray), .string (⟨#[]⟩ : ByteArray)] 54 (0, 0)) (by (with_reducible repeat (first | refine blk_drewN ?_ _ | refine blk_drew ?_ | refine blk_alloc ?_ _)); exact BK242.out) hb)
        have n9_ := Aside0.mk (below_step (by repeat (first | (with_reducible first | exact HB.out | apply below_alloc | apply pw_below_drewN | apply below_drew1 | refine below_set ?_ GE240.out | refine below_set ?_ GE241.out | refine below_set ?_ GE242.out) | exact HB.out)) hb)
        clear HO245
        clear HO248
        clear HO251
        clear HO254
        clear HO257
        clear BK240
        clear BK241
        clear BK242
        clear HB
        have HO245 := n0_
        have HO248 := n1_
        have HO251 := n2_
        have HO254 := n3_
        have HO257 := n4_
        have HO260 := n5_
        have BK240 := n6_
        have BK241 := n7_
        have BK242 := n8_
        have HB := n9_
        clear n0_ n1_ n2_ n3_ n4_ n5_ n6_ n7_ n8_ n9_
        (try clear hb)
        (try clear hb2)
        (try clear hk)
        (try clear hi)
        (try clear ho0)
        obtain ⟨Ao38, co38, eo38⟩ := Kd.V_slice HO251.out
        (first | subst eo38 | (injection eo38 with f1_ f2_ f3_; have f4_ := f1_.symm; have f5_ := f3_.symm; clear f1_ f2_ f3_; subst f4_; subst f5_))
        obtain ⟨Ao39, co39, eo39⟩ := Kd.V_slice HO260.out
        (first | subst eo39 | (injection eo39 with f1_ f2_ f3_; have f4_ := f1_.symm; have f5_ := f3_.symm; clear f1_ f2_ f3_; subst f4_; subst f5_))
        refine hK.out _ _ ⟨(blk_cell BK240.out 0).trans rfl, (blk_cell BK240.out 1).trans rfl, (blk_cell BK240.out 2).trans rfl, (blk_cell BK241.out 0).trans rfl, (blk_cell BK241.out 1).trans rfl, (blk_cell BK241.out 2).trans rfl⟩ (fun hHeld => ?_)
        clear hK K
        refine norm_ (a' := ?_) ?_ ?_
        rotate_left
        · show Act.put _ (some 30) _ = _
          simp only [Act.put, List.setIfInBounds_toArray, List.set_cons_zero, List.set_cons_succ, i64_w, i32_w]
          rfl
        refine one_ (i := 17) (N := some 31) #[true, true, true, true, true, true, true, true, true, true, true, true, true, true, true, true, true, true, false] rfl rfl (one_of HT_.out (by kernel_rfl)) (by decide) (fun K hK => ?_)
        refine goes_ Try.func30 (by kernel_rfl) rfl #[.bool (a0_0 != a1_0), .slice Ao38 t249.length co38, .slice Ao39 t258.length co39] (by rfl) rfl rfl (by (try simp only [List.map_toArray, List.map_cons, List.map_nil]); first | done | rfl | (simp only [List.length_drop, List.length_take]; rfl)) ?_
        with_reducible refine (insolvencyref1_reduced.calls kj2 (a0_0 != a1_0) (fun k_ => (((some k_ ≠ (.slice Ao30 t243.length co30 : Value).ownBlock ∧ (some k_ ≠ (.slice Ao31 t246.length co31 : Value).ownBlock ∧ (k_ ≠ gb240 ∧ (k_ ≠ gb241 ∧ k_ ≠ gb242)))) ∧ some k_ ≠ (.slice Ao35 t252.length co35 : Value).ownBlock) ∧ some k_ ≠ (.slice Ao36 t255.length co36 : Value).ownBlock)) _ _ t249 (fun k_ => (some k_ ≠ (.slice Ao30 t243.length co30 : Value).ownBlock ∧ (some k_ ≠ (.slice Ao31 t246.length co31 : Value).ownBlock ∧ (some k_ ≠ (.slice Ao35 t252.length co35 : Value).ownBlock ∧ (some k_ ≠ (.slice Ao36 t255.length co36 : Value).ownBlock ∧ (k_ ≠ gb240 ∧ (k_ ≠ gb241 ∧ k_ ≠ gb242))))))) _ _ t258 t261 t262 t263 _ ?side1 ?side2 A26.out).mono ?_
        (case side1 => exact HO251.out)
        (case side2 => exact HO260.out)
        rintro e w40 ⟨rfl, hb⟩
        refine ⟨_, rfl, ?_⟩
        have n0_ := Aside0.mk (Kd.R_below (by (with_reducible repeat (first | apply Kd.R_alloc | apply Kd.R_drewN | apply Kd.R_drew)); exact HO245.out) hb)
        have n1_ := Aside0.mk (Kd.R_below (by (with_reducible repeat (first | apply Kd.R_alloc | apply Kd.R_drewN | apply Kd.R_drew)); exact HO248.out) hb)
        have n2_ := Aside0.mk (Kd.V_below (by (with_reducible repeat (first | apply Kd.V_alloc | apply Kd.V_drewN | apply Kd.V_drew)); exact HO251.out) hb)
        have n3_ := Aside0.mk (Kd.R_below (by (with_reducible repeat (first | apply Kd.R_alloc | apply Kd.R_drewN | apply Kd.R_drew)); exact HO254.out) hb)
        have n4_ := Aside0.mk (Kd.R_below (by (with_reducible repeat (first | apply Kd.R_alloc | apply Kd.R_drewN | apply Kd.R_drew)); exact HO257.out) hb)
        have n5_ := Aside0.mk (Kd.V_below (by (with_reducible repeat (first | apply Kd.V_alloc | apply Kd.V_drewN | apply Kd.V_drew)); exact HO260.out) hb)
        have n6_ := Aside0.mk (blk_below (g := gb240) (o := .cells #[.bool a0_0, .string a0_1, .string a0_2] 54 (0, 0)) (by (with_reducible repeat (first | refine blk_drewN ?_ _ | refine blk_drew ?_ | refine blk_alloc ?_ _)); exact BK240.out) hb)
        have n7_ := Aside0.mk (blk_below (g := gb241) (o := .cells #[.bool a1_0, .string a1_1, .string a1_2] 54 (0, 0)) (by (with_reducible repeat (first | refine blk_drewN ?_ _ | refine blk_drew ?_ | refine blk_alloc ?_ _)); exact BK241.out) hb)
        have n8_ := Aside0.mk (blk_below (g := gb242) (o := .cells #[.bool false, .string (⟨#[]⟩ : ByteArray), .string (⟨#[]⟩ : ByteArray)] 54 (0, 0)) (by (with_reducible repeat (first | refine blk_drewN ?_ _ | refine blk_drew ?_ | refine blk_alloc ?_ _)); exact BK242.out) hb)
        have n9_ := Aside0.mk (below_step (by repeat (first | (with_reducible first | exact HB.out | apply below_alloc | apply pw_below_drewN | apply below_drew1 | refine below_set ?_ GE240.out | refine below_set ?_ GE241.out | refine below_set ?_ GE242.out) | exact HB.out)) hb)
        clear HO245
        clear HO248
        clear HO251
        clear HO254
        clear HO257
        clear HO260
        clear BK240
        clear BK241
        clear BK242
        clear HB
        have HO245 := n0_
        have HO248 := n1_
        have HO251 := n2_
        have HO254 := n3_
        have HO257 := n4_
        have HO260 := n5_
        have BK240 := n6_
        have BK241 := n7_
        have BK242 := n8_
        have HB := n9_
        clear n0_ n1_ n2_ n3_ n4_ n5_ n6_ n7_ n8_ n9_
        (try clear hb)
        (try clear hb2)
        (try clear hk)
        (try clear hi)
        refine hK.out _ _ ⟨(blk_cell BK240.out 0).trans rfl, (blk_cell BK240.out 1).trans rfl, (blk_cell BK240.out 2).trans rfl, (blk_cell BK241.out 0).trans rfl, (blk_cell BK241.out 1).trans rfl, (blk_cell BK241.out 2).trans rfl⟩ (fun hHeld => ?_)
        clear hK K
        refine norm_ (a' := ?_) ?_ ?_
        rotate_left
        · show Act.put _ (some 31) _ = _
          simp only [Act.put, List.setIfInBounds_toArray, List.set_cons_zero, List.set_cons_succ, i64_w, i32_w]
          rfl
        refine one_ (i := 18) (N := none) #[true, true, true, true, true, true, true, true, true, true, true, true, true, true, true, true, true, true, true] rfl rfl (one_of HT_.out (by kernel_rfl)) (by decide) (fun K hK => ?_)
        have hs41 : w40.cell? ⟨gb242, 0, none⟩ = some (.bool false) := (blk_cell BK242.out 0).trans rfl
        have hfs41 := blk_frozen BK242.out 0
        have hns41_0 := NB240_242.out
        have hns41_1 := NB241_242.out
        have hms41_0 := NB242_240.out
        have hms41_1 := NB242_241.out
        have hs42 : w40.cell? ⟨gb242, 1, none⟩ = some (.string (⟨#[]⟩ : ByteArray)) := (blk_cell BK242.out 1).trans rfl
        have hfs42 := blk_frozen BK242.out 1
        have hns42_0 := NB240_242.out
        have hns42_1 := NB241_242.out
        have hms42_0 := NB242_240.out
        have hms42_1 := NB242_241.out
        have hs43 : w40.cell? ⟨gb242, 2, none⟩ = some (.string (⟨#[]⟩ : ByteArray)) := (blk_cell BK242.out 2).trans rfl
        have hfs43 := blk_frozen BK242.out 2
        have hns43_0 := NB240_242.out
        have hns43_1 := NB241_242.out
        have hms43_0 := NB242_240.out
        have hms43_1 := NB242_241.out
        refine skip_ (w1 := ?_) (by rfl) rfl ?_ ?_
        rotate_left
        · go_simp
          rfl
        refine hK.out _ _ ⟨((cell_far (p := ⟨gb242, _, none⟩) NB240_242.out _).trans (((cell_far (p := ⟨gb242, _, none⟩) NB240_242.out _).trans (((cell_far (p := ⟨gb242, _, none⟩) NB240_242.out _).trans (hHeld.1)))))), ((cell_far (p := ⟨gb242, _, none⟩) NB240_242.out _).trans (((cell_far (p := ⟨gb242, _, none⟩) NB240_242.out _).trans (((cell_far (p := ⟨gb242, _, none⟩) NB240_242.out _).trans (hHeld.2.1)))))), ((cell_far (p := ⟨gb242, _, none⟩) NB240_242.out _).trans (((cell_far (p := ⟨gb242, _, none⟩) NB240_242.out _).trans (((cell_far (p := ⟨gb242, _, none⟩) NB240_242.out _).trans (hHeld.2.2.1)))))), ((cell_far (p := ⟨gb242, _, none⟩) NB241_242.out _).trans (((cell_far (p := ⟨gb242, _, none⟩) NB241_242.out _).trans (((cell_far (p := ⟨gb242, _, none⟩) NB241_242.out _).trans (hHeld.2.2.2.1)))))), ((cell_far (p := ⟨gb242, _, none⟩) NB241_242.out _).trans (((cell_far (p := ⟨gb242, _, none⟩) NB241_242.out _).trans (((cell_far (p := ⟨gb242, _, none⟩) NB241_242.out _).trans (hHeld.2.2.2.2.1)))))), ((cell_far (p := ⟨gb242, _, none⟩) NB241_242.out _).trans (((cell_far (p := ⟨gb242, _, none⟩) NB241_242.out _).trans (((cell_far (p := ⟨gb242, _, none⟩) NB241_242.out _).trans (hHeld.2.2.2.2.2))))))⟩ (fun hHeld => ?_)
        clear hK K
        refine done_ (done_of HT_.out (by kernel_rfl)) ?_
        try go_wp2
        refine bodyPost_ret (results_cell_row rfl _ _ gb242 54 #[.bool t261, .string t262, .string t263] (0, 0) _ rfl (by (with_reducible repeat (first | refine blk_drewN ?_ _ | refine blk_drew ?_ | refine blk_alloc ?_ _)); refine blk_put (cs := #[.bool t261, .string t262, .string (⟨#[]⟩ : ByteArray)]) ?_ 2 _ rfl; (with_reducible repeat (first | refine blk_drewN ?_ _ | refine blk_drew ?_ | refine blk_alloc ?_ _)); refine blk_put (cs := #[.bool t261, .string (⟨#[]⟩ : ByteArray), .string (⟨#[]⟩ : ByteArray)]) ?_ 1 _ rfl; (with_reducible repeat (first | refine blk_drewN ?_ _ | refine blk_drew ?_ | refine blk_alloc ?_ _)); refine blk_put (cs := #[.bool false, .string (⟨#[]⟩ : ByteArray), .string (⟨#[]⟩ : ByteArray)]) ?_ 0 _ rfl; (with_reducible repeat (first | refine blk_drewN ?_ _ | refine blk_drew ?_ | refine blk_alloc ?_ _)); exact BK242.out) Try.underlying54 rfl (by kernel_rfl)) rfl ?_
        exact ⟨by first | rfl | (simp [errW_none, errW_some] <;> rfl) | (simp [*, errW_none, errW_some] <;> rfl), by repeat (first | (with_reducible first | exact HB.out | apply below_alloc | apply pw_below_drewN | apply below_drew1 | refine below_set ?_ GE240.out | refine below_set ?_ GE241.out | refine below_set ?_ GE242.out) | exact HB.out)⟩

/-! ### insolvencyref1_FromUint: function 34 -/
def insolvencyref1_FromUint.f (k : Nat) (a0 : Int) : Option (ByteArray) := (insolvencyref1_text.f k (([(a0) % 4294967296, (a0 / 4294967296) % 4294967296] : List Int))).bind fun t267 => (some t267)
theorem insolvencyref1_FromUint.mono : ∀ a0 k, LeO (insolvencyref1_FromUint.f k a0) (insolvencyref1_FromUint.f (k + 1) a0) := by
  intro a0 k
  unfold insolvencyref1_FromUint.f
  repeat' first
      | (with_reducible exact insolvencyref1_text.mono _ _)
      | (with_reducible exact LeO.refl _)
      | (with_reducible exact LeO.none _)
      | (with_reducible refine LeO.ite ?_ ?_)
      | (with_reducible refine LeO.bind ?_ (fun _ => ?_))
      | exact insolvencyref1_text.mono _ _
      | exact LeO.none _
      | refine LeO.ite ?_ ?_
      | refine LeO.bind ?_ (fun _ => ?_)
set_option maxHeartbeats 8000000 in
set_option maxRecDepth 100000 in
theorem insolvencyref1_FromUint.calls (k : Nat) (a0 : Int) (r : ByteArray) (w : World) (h : insolvencyref1_FromUint.f k a0 = some r) :
    Calls Try.prog 34 #[.int .u64 a0] w fun e w' => e = .returned (.string r) ∧ Below w.heap.size w w' := by
  have HB := Aside0.mk (Below.refl w.heap.size w)
  have H : ((insolvencyref1_text.f k (([(a0) % 4294967296, (a0 / 4294967296) % 4294967296] : List Int))).bind fun t267 => (some t267)) = some r := h
  clear h
  obtain ⟨y264, hy264⟩ : ∃ y_ : List Int, y_ = (([(a0) % 4294967296, (a0 / 4294967296) % 4294967296] : List Int)) := ⟨_, rfl⟩
  replace H : ((insolvencyref1_text.f k y264).bind fun t267 => (some t267)) = some r := by first | (rw [hy264]; with_reducible exact H) | (have H2_ := (Option.bind_some _ _).symm.trans H; rw [hy264]; with_reducible exact H2_) | (have H2_ := (Option.bind_some _ _).symm.trans H; with_reducible exact H2_) | with_reducible exact H | (rw [hy264]; exact H) | exact H
  have Ny264 := Aside0.mk hy264
  clear hy264
  replace H := Option.bind_eq_some_iff.mp H
  obtain ⟨t267, A20, H⟩ := H
  replace H : (some t267) = some r := H
  have A2 := Aside0.mk A20
  clear A20
  obtain rfl := Option.some.inj H
  go_enter Try.func34, Try.ntmps34
  go_wp2_with (first | ((with_reducible refine gate_dst (N := 8) rfl ?_); refine Kd.R_lit (Kd.int .u32) _ 74 ?hg (N := 8) ?hd (xs := ([(a0) % 4294967296, (a0 / 4294967296) % 4294967296] : List Int)) (inner := [.int .u32 ((a0) % 4294967296), .int .u32 ((a0 / 4294967296) % 4294967296)]) (ok := fun _ => True) (okp := fun _ => True) ?hr ?hp (fun _ hk => hk) trivial (Below.refl _ _) (Nat.le_refl _) (by simp) ?_; (case hd => rfl); (case hg => rfl); (case hr => first | (go_simp; done) | (go_simp; rfl)); (case hp => exact (Reps.one (show Kd.M (Kd.int .u32) _ _ _ ((a0) % 4294967296) [.int .u32 ((a0) % 4294967296)] from rfl) (Reps.one (show Kd.M (Kd.int .u32) _ _ _ ((a0 / 4294967296) % 4294967296) [.int .u32 ((a0 / 4294967296) % 4294967296)] from rfl) (Reps.none _ _)))); intro v265 w3 ho4 hb hg_ hnew_; clear hg_ hnew_; (first | rw [← Ny264.out] at ho4 | (simp only [Int.reduceToNat] at ho4; rw [← Ny264.out] at ho4)); have n0_ := Aside0.mk (Kd.R_lower ho4 (below_size (by repeat (first | (with_reducible first | exact HB.out | apply below_alloc | apply pw_below_drewN | apply below_drew1) | exact HB.out)))); have n1_ := Aside0.mk (below_step (by repeat (first | (with_reducible first | exact HB.out | apply below_alloc | apply pw_below_drewN | apply below_drew1) | exact HB.out)) hb); clear HB; have HO266 := n0_; have HB := n1_; clear n0_ n1_; clear hb ho4; obtain ⟨Ao5, co5, eo5⟩ := Kd.R_slice HO266.out; subst eo5) | ((with_reducible refine gate_callee (f := 42) rfl ?_); refine goesL_ (some 9) rfl rfl Try.func42 (by kernel_rfl) rfl #[.slice Ao5 y264.length co5] rfl (by (try simp only [List.map_toArray, List.map_cons, List.map_nil]); first | done | rfl | (simp only [List.length_drop, List.length_take]; rfl)) ?_; (with_reducible refine (insolvencyref1_text.calls k _ _ y264 t267 _ ?side1 ?side2 A2.out).mono ?_); (case side1 => repeat (first | exact (Kd.R_reads' HO266.out).2.2 | (with_reducible refine Kd.C_alloc ?_ _) | (with_reducible refine Kd.C_drewN ?_ _) | (with_reducible refine Kd.C_drew ?_))); (case side2 => exact (Kd.R_reads' HO266.out).2.1); rintro e w6 ⟨rfl, hb⟩; refine ⟨_, rfl, ?_⟩; have n0_ := Aside0.mk (Kd.R_below (by (with_reducible repeat (first | apply Kd.R_alloc | apply Kd.R_drewN | apply Kd.R_drew)); exact HO266.out) hb); have n1_ := Aside0.mk (below_step (by repeat (first | (with_reducible first | exact HB.out | apply below_alloc | apply pw_below_drewN | apply below_drew1) | exact HB.out)) hb); clear HO266; clear HB; have HO266 := n0_; have HB := n1_; clear n0_ n1_; (try clear hb); (try clear hb2); (try clear hk); (try clear hi)))
  go_ret
  exact ⟨by first | rfl | (simp [errW_none, errW_some] <;> rfl) | (simp [*, errW_none, errW_some] <;> rfl), by repeat (first | (with_reducible first | exact HB.out | apply below_alloc | apply pw_below_drewN | apply below_drew1) | exact HB.out)⟩

/-! ### insolvencyref1_size: function 35 -/
def insolvencyref1_size.f (a0 : Int) : Option (Int) := if a0 < 0 then (some (IntKind.u64.wrap ((IntKind.u64.wrap (wrap64 (-(wrap64 (a0 + 1))))) + 1))) else (some (IntKind.u64.wrap (a0)))
set_option maxHeartbeats 8000000 in
set_option maxRecDepth 100000 in
theorem insolvencyref1_size.calls (a0 : Int) (r : Int) (w : World) (h : insolvencyref1_size.f a0 = some r) :
    Calls Try.prog 35 #[.int .i64 a0] w fun e w' => e = .returned (.int .u64 r) ∧ Drawn0 w w' := by
  have H : (if a0 < 0 then (some (IntKind.u64.wrap ((IntKind.u64.wrap (wrap64 (-(wrap64 (a0 + 1))))) + 1))) else (some (IntKind.u64.wrap (a0)))) = some r := h
  clear h
  by_cases c2 : a0 < 0
  · rw [if_pos c2] at H
    have c2b0 : decide (a0 < 0) = true := decide_eq_true c2
    clear c2
    obtain rfl := Option.some.inj H
    go_enter Try.func35, Try.ntmps35
    go_wp2
    go_ret
    exact ⟨by first | rfl | (simp; done) | (simp [*]; done), by repeat (first | exact Drawn0.refl _ | apply Drawn0.step)⟩
  · rw [if_neg c2] at H
    have c2b0 : decide (a0 < 0) = false := decide_eq_false c2
    clear c2
    obtain rfl := Option.some.inj H
    go_enter Try.func35, Try.ntmps35
    go_wp2
    go_ret
    exact ⟨by first | rfl | (simp; done) | (simp [*]; done), by repeat (first | exact Drawn0.refl _ | apply Drawn0.step)⟩

/-! ### insolvencyref1_Int: function 24 -/
def insolvencyref1_Int.f (k : Nat) (a0 : Int) : Option (Bool × ByteArray × ByteArray) := (insolvencyref1_size.f a0).bind fun t269 => ((insolvencyref1_FromUint.f k t269).bind fun t270 => (some (decide (a0 < 0), t270, (⟨#[]⟩ : ByteArray))))
theorem insolvencyref1_Int.mono : ∀ a0 k, LeO (insolvencyref1_Int.f k a0) (insolvencyref1_Int.f (k + 1) a0) := by
  intro a0 k
  unfold insolvencyref1_Int.f
  repeat' first
      | (with_reducible exact insolvencyref1_FromUint.mono _ _)
      | (with_reducible exact LeO.refl _)
      | (with_reducible exact LeO.none _)
      | (with_reducible refine LeO.ite ?_ ?_)
      | (with_reducible refine LeO.bind ?_ (fun _ => ?_))
      | exact insolvencyref1_FromUint.mono _ _
      | exact LeO.none _
      | refine LeO.ite ?_ ?_
      | refine LeO.bind ?_ (fun _ => ?_)
set_option maxHeartbeats 8000000 in
set_option maxRecDepth 100000 in
theorem insolvencyref1_Int.calls (k : Nat) (a0 : Int) (r1 : Bool) (r2 : ByteArray) (r3 : ByteArray) (w : World) (h : insolvencyref1_Int.f k a0 = some (r1, r2, r3)) :
    Calls Try.prog 24 #[.int .i64 a0] w fun e w' => e = .returned (.agg #[.bool r1, .string r2, .string r3]) ∧ Below w.heap.size w w' := by
  have hu54 := Try.underlying54
  have HB := Aside0.mk (Below.refl w.heap.size w)
  have H : ((insolvencyref1_size.f a0).bind fun t269 => ((insolvencyref1_FromUint.f k t269).bind fun t270 => (some (decide (a0 < 0), t270, (⟨#[]⟩ : ByteArray))))) = some (r1, r2, r3) := h
  clear h
  replace H := Option.bind_eq_some_iff.mp H
  obtain ⟨t269, A20, H⟩ := H
  replace H : ((insolvencyref1_FromUint.f k t269).bind fun t270 => (some (decide (a0 < 0), t270, (⟨#[]⟩ : ByteArray)))) = some (r1, r2, r3) := H
  have A2 := Aside0.mk A20
  clear A20
  replace H := Option.bind_eq_some_iff.mp H
  obtain ⟨t270, A30, H⟩ := H
  replace H : (some (decide (a0 < 0), t270, (⟨#[]⟩ : ByteArray))) = some (r1, r2, r3) := H
  have A3 := Aside0.mk A30
  clear A30
  simp only [Option.some.injEq, Prod.mk.injEq] at H
  obtain ⟨rfl, rfl, rfl⟩ := H
  go_enter Try.func24, Try.ntmps24
  go_wp2_with (first | ((with_reducible refine gate_dst (N := 2) rfl ?_); refine box_event ?hg (N := 2) ?hd (cs := #[.bool false, .string (⟨#[]⟩ : ByteArray), .string (⟨#[]⟩ : ByteArray)]) (t := 54) ?hr ?_; (case hd => rfl); (case hg => rfl); (case hr => first | (go_simp; done) | (go_simp; rfl)); intro gb268 hg w4 hbox hb; have n0_ := Aside0.mk (below_step (by repeat (first | (with_reducible first | exact HB.out | apply below_alloc | apply pw_below_drewN | apply below_drew1) | exact HB.out)) hb); have n1_ := Aside0.mk (hbox); have n2_ := Aside0.mk ((by rw [hg]; exact (below_size (by repeat (first | (with_reducible first | exact HB.out | apply below_alloc | apply pw_below_drewN | apply below_drew1) | exact HB.out))) : w.heap.size ≤ gb268)); have n3_ := Aside0.mk ((by rw [hg]; exact (below_size (by repeat (first | (with_reducible first | exact HB.out | apply below_alloc | apply pw_below_drewN | apply below_drew1) | exact HB.out))) : w.heap.size ≤ gb268)); clear HB; have HB := n0_; have BK268 := n1_; have GW268 := n2_; have GE268 := n3_; clear n0_ n1_ n2_ n3_; clear hb hbox hg) | ((with_reducible refine gate_callee (f := 35) rfl ?_); refine goesL_ (some 6) rfl rfl Try.func35 (by kernel_rfl) rfl #[.int .i64 a0] rfl (by (try simp only [List.map_toArray, List.map_cons, List.map_nil]); first | done | rfl | (simp only [List.length_drop, List.length_take]; rfl)) ?_; (with_reducible refine (insolvencyref1_size.calls a0 t269 _ A2.out).mono ?_); rintro e w' ⟨rfl, ⟨nd, rfl⟩⟩; refine ⟨_, rfl, ?_⟩; (try (rw [drewN_self w4]; generalize hq_ : World.drewN w4 _ = w4; have n0_ : Aside0 (w4.heap[gb268]? = some (.cells #[.bool false, .string (⟨#[]⟩ : ByteArray), .string (⟨#[]⟩ : ByteArray)] 54 (0, 0))) := ⟨by rw [← hq_]; exact (by (with_reducible repeat (first | refine blk_drewN ?_ _ | refine blk_drew ?_ | refine blk_alloc ?_ _)); exact BK268.out)⟩; have n1_ : Aside0 (Below w.heap.size w w4) := ⟨by rw [← hq_]; exact (by repeat (first | (with_reducible first | exact HB.out | apply below_alloc | apply pw_below_drewN | apply below_drew1 | refine below_set ?_ GE268.out) | exact HB.out))⟩; clear BK268 HB hq_; have BK268 := n0_; have HB := n1_; clear n0_ n1_))) | ((with_reducible refine gate_callee (f := 34) rfl ?_); refine goesL_ (some 7) rfl rfl Try.func34 (by kernel_rfl) rfl #[.int .u64 t269] rfl (by (try simp only [List.map_toArray, List.map_cons, List.map_nil]); first | done | rfl | (simp only [List.length_drop, List.length_take]; rfl)) ?_; (with_reducible refine (insolvencyref1_FromUint.calls k t269 t270 _ A3.out).mono ?_); rintro e w5 ⟨rfl, hb⟩; refine ⟨_, rfl, ?_⟩; have n0_ := Aside0.mk (blk_below (g := gb268) (o := .cells #[.bool false, .string (⟨#[]⟩ : ByteArray), .string (⟨#[]⟩ : ByteArray)] 54 (0, 0)) (by (with_reducible repeat (first | refine blk_drewN ?_ _ | refine blk_drew ?_ | refine blk_alloc ?_ _)); exact BK268.out) hb); have n1_ := Aside0.mk (below_step (by repeat (first | (with_reducible first | exact HB.out | apply below_alloc | apply pw_below_drewN | apply below_drew1 | refine below_set ?_ GE268.out) | exact HB.out)) hb); clear BK268; clear HB; have BK268 := n0_; have HB := n1_; clear n0_ n1_; (try clear hb); (try clear hb2); (try clear hk); (try clear hi); have hcz6_0 : w5.cell? ⟨gb268, 0, none⟩ = some (.bool false) := (blk_cell BK268.out 0).trans rfl; have hcz6_1 : w5.cell? ⟨gb268, 1, none⟩ = some (.string (⟨#[]⟩ : ByteArray)) := (blk_cell BK268.out 1).trans rfl; have hcz6_2 : w5.cell? ⟨gb268, 2, none⟩ = some (.string (⟨#[]⟩ : ByteArray)) := (blk_cell BK268.out 2).trans rfl; have hfz6_0 := blk_frozen BK268.out 0; have hfz6_1 := blk_frozen BK268.out 1; have hfz6_2 := blk_frozen BK268.out 2))
  refine bodyPost_ret (results_cell_row rfl _ _ gb268 54 #[.bool (decide (a0 < 0)), .string t270, .string (⟨#[]⟩ : ByteArray)] (0, 0) _ rfl (by (with_reducible repeat (first | refine blk_drewN ?_ _ | refine blk_drew ?_ | refine blk_alloc ?_ _)); refine blk_put (cs := #[.bool (decide (a0 < 0)), .string t270, .string (⟨#[]⟩ : ByteArray)]) ?_ 2 _ rfl; (with_reducible repeat (first | refine blk_drewN ?_ _ | refine blk_drew ?_ | refine blk_alloc ?_ _)); refine blk_put (cs := #[.bool (decide (a0 < 0)), .string (⟨#[]⟩ : ByteArray), .string (⟨#[]⟩ : ByteArray)]) ?_ 1 _ rfl; (with_reducible repeat (first | refine blk_drewN ?_ _ | refine blk_drew ?_ | refine blk_alloc ?_ _)); refine blk_put (cs := #[.bool false, .string (⟨#[]⟩ : ByteArray), .string (⟨#[]⟩ : ByteArray)]) ?_ 0 _ rfl; (with_reducible repeat (first | refine blk_drewN ?_ _ | refine blk_drew ?_ | refine blk_alloc ?_ _)); exact BK268.out) Try.underlying54 rfl (by kernel_rfl)) rfl ?_
  exact ⟨by first | rfl | (simp [errW_none, errW_some] <;> rfl) | (simp [*, errW_none, errW_some] <;> rfl), by repeat (first | (with_reducible first | exact HB.out | apply below_alloc | apply pw_below_drewN | apply below_drew1 | refine below_set ?_ GE268.out) | exact HB.out)⟩

/-! ### insolvencyref1_Signum: function 36 -/
def insolvencyref1_Signum.f (a0_0 : Bool) (a0_1 : ByteArray) (a0_2 : ByteArray) : Option (Int) := if a0_1.toList = ([] : List UInt8) then (some 0) else (if a0_0 = true then (some (-1)) else (some 1))
set_option maxHeartbeats 8000000 in
set_option maxRecDepth 100000 in
theorem insolvencyref1_Signum.calls (a0_0 : Bool) (a0_1 : ByteArray) (a0_2 : ByteArray) (r : Int) (w : World) (h : insolvencyref1_Signum.f a0_0 a0_1 a0_2 = some r) :
    Calls Try.prog 36 #[.agg #[.bool a0_0, .string a0_1, .string a0_2]] w fun e w' => e = .returned (.int .i64 r) ∧ Below w.heap.size w w' := by
  have hu54 := Try.underlying54
  have HB := Aside0.mk (Below.refl w.heap.size w)
  have H : (if a0_1.toList = ([] : List UInt8) then (some 0) else (if a0_0 = true then (some (-1)) else (some 1))) = some r := h
  clear h
  by_cases c2 : a0_1.toList = ([] : List UInt8)
  · rw [if_pos c2] at H
    have c2b0 : (a0_1.toList == ([] : List UInt8)) = true := beq_iff_eq.mpr c2
    have c2b1 : (a0_1.toList != ([] : List UInt8)) = false := bne_eq_false_iff_eq.mpr c2
    clear c2
    obtain rfl := Option.some.inj H
    go_enter Try.func36, Try.ntmps36
    go_wp2_with (first | ((with_reducible refine gate_dst (N := 1) rfl ?_); refine box_event ?hg (N := 1) ?hd (cs := #[.bool a0_0, .string a0_1, .string a0_2]) (t := 54) ?hr ?_; (case hd => rfl); (case hg => rfl); (case hr => first | (go_simp; done) | (go_simp; rfl)); intro gb271 hg w3 hbox hb; have n0_ := Aside0.mk (below_step (by repeat (first | (with_reducible first | exact HB.out | apply below_alloc | apply pw_below_drewN | apply below_drew1) | exact HB.out)) hb); have n1_ := Aside0.mk (hbox); have n2_ := Aside0.mk ((by rw [hg]; exact (below_size (by repeat (first | (with_reducible first | exact HB.out | apply below_alloc | apply pw_below_drewN | apply below_drew1) | exact HB.out))) : w.heap.size ≤ gb271)); have n3_ := Aside0.mk ((by rw [hg]; exact (below_size (by repeat (first | (with_reducible first | exact HB.out | apply below_alloc | apply pw_below_drewN | apply below_drew1) | exact HB.out))) : w.heap.size ≤ gb271)); clear HB; have HB := n0_; have BK271 := n1_; have GW271 := n2_; have GE271 := n3_; clear n0_ n1_ n2_ n3_; clear hb hbox hg; have hcz4_0 : w3.cell? ⟨gb271, 0, none⟩ = some (.bool a0_0) := (blk_cell BK271.out 0).trans rfl; have hcz4_1 : w3.cell? ⟨gb271, 1, none⟩ = some (.string a0_1) := (blk_cell BK271.out 1).trans rfl; have hcz4_2 : w3.cell? ⟨gb271, 2, none⟩ = some (.string a0_2) := (blk_cell BK271.out 2).trans rfl; have hfz4_0 := blk_frozen BK271.out 0; have hfz4_1 := blk_frozen BK271.out 1; have hfz4_2 := blk_frozen BK271.out 2))
    go_ret
    exact ⟨by first | rfl | (simp [errW_none, errW_some] <;> rfl) | (simp [*, errW_none, errW_some] <;> rfl), by repeat (first | (with_reducible first | exact HB.out | apply below_alloc | apply pw_below_drewN | apply below_drew1 | refine below_set ?_ GE271.out) | exact HB.out)⟩
  · rw [if_neg c2] at H
    have c2b0 : (a0_1.toList == ([] : List UInt8)) = false := beq_eq_false_iff_ne.mpr c2
    have c2b1 : (a0_1.toList != ([] : List UInt8)) = true := bne_iff_ne.mpr c2
    by_cases c5 : a0_0 = true
    · subst c5
      have H1 : (some (-1)) = some r := by rw [if_pos rfl] at H; exact H
      clear H
      have H := H1
      clear H1
      obtain rfl := Option.some.inj H
      go_enter Try.func36, Try.ntmps36
      go_wp2_with (first | ((with_reducible refine gate_dst (N := 1) rfl ?_); refine box_event ?hg (N := 1) ?hd (cs := #[.bool true, .string a0_1, .string a0_2]) (t := 54) ?hr ?_; (case hd => rfl); (case hg => rfl); (case hr => first | (go_simp; done) | (go_simp; rfl)); intro gb271 hg w6 hbox hb; have n0_ := Aside0.mk (below_step (by repeat (first | (with_reducible first | exact HB.out | apply below_alloc | apply pw_below_drewN | apply below_drew1) | exact HB.out)) hb); have n1_ := Aside0.mk (hbox); have n2_ := Aside0.mk ((by rw [hg]; exact (below_size (by repeat (first | (with_reducible first | exact HB.out | apply below_alloc | apply pw_below_drewN | apply below_drew1) | exact HB.out))) : w.heap.size ≤ gb271)); have n3_ := Aside0.mk ((by rw [hg]; exact (below_size (by repeat (first | (with_reducible first | exact HB.out | apply below_alloc | apply pw_below_drewN | apply below_drew1) | exact HB.out))) : w.heap.size ≤ gb271)); clear HB; have HB := n0_; have BK271 := n1_; have GW271 := n2_; have GE271 := n3_; clear n0_ n1_ n2_ n3_; clear hb hbox hg; have hcz7_0 : w6.cell? ⟨gb271, 0, none⟩ = some (.bool true) := (blk_cell BK271.out 0).trans rfl; have hcz7_1 : w6.cell? ⟨gb271, 1, none⟩ = some (.string a0_1) := (blk_cell BK271.out 1).trans rfl; have hcz7_2 : w6.cell? ⟨gb271, 2, none⟩ = some (.string a0_2) := (blk_cell BK271.out 2).trans rfl; have hfz7_0 := blk_frozen BK271.out 0; have hfz7_1 := blk_frozen BK271.out 1; have hfz7_2 := blk_frozen BK271.out 2))
      go_ret
      exact ⟨by first | rfl | (simp [errW_none, errW_some] <;> rfl) | (simp [*, errW_none, errW_some] <;> rfl), by repeat (first | (with_reducible first | exact HB.out | apply below_alloc | apply pw_below_drewN | apply below_drew1 | refine below_set ?_ GE271.out) | exact HB.out)⟩
    · replace c5 := Bool.eq_false_iff.mpr c5
      subst c5
      have H1 : (some 1) = some r := by rw [if_neg (show ¬ (false = true) by decide)] at H; exact H
      clear H
      have H := H1
      clear H1
      obtain rfl := Option.some.inj H
      go_enter Try.func36, Try.ntmps36
      go_wp2_with (first | ((with_reducible refine gate_dst (N := 1) rfl ?_); refine box_event ?hg (N := 1) ?hd (cs := #[.bool false, .string a0_1, .string a0_2]) (t := 54) ?hr ?_; (case hd => rfl); (case hg => rfl); (case hr => first | (go_simp; done) | (go_simp; rfl)); intro gb271 hg w8 hbox hb; have n0_ := Aside0.mk (below_step (by repeat (first | (with_reducible first | exact HB.out | apply below_alloc | apply pw_below_drewN | apply below_drew1) | exact HB.out)) hb); have n1_ := Aside0.mk (hbox); have n2_ := Aside0.mk ((by rw [hg]; exact (below_size (by repeat (first | (with_reducible first | exact HB.out | apply below_alloc | apply pw_below_drewN | apply below_drew1) | exact HB.out))) : w.heap.size ≤ gb271)); have n3_ := Aside0.mk ((by rw [hg]; exact (below_size (by repeat (first | (with_reducible first | exact HB.out | apply below_alloc | apply pw_below_drewN | apply below_drew1) | exact HB.out))) : w.heap.size ≤ gb271)); clear HB; have HB := n0_; have BK271 := n1_; have GW271 := n2_; have GE271 := n3_; clear n0_ n1_ n2_ n3_; clear hb hbox hg; have hcz9_0 : w8.cell? ⟨gb271, 0, none⟩ = some (.bool false) := (blk_cell BK271.out 0).trans rfl; have hcz9_1 : w8.cell? ⟨gb271, 1, none⟩ = some (.string a0_1) := (blk_cell BK271.out 1).trans rfl; have hcz9_2 : w8.cell? ⟨gb271, 2, none⟩ = some (.string a0_2) := (blk_cell BK271.out 2).trans rfl; have hfz9_0 := blk_frozen BK271.out 0; have hfz9_1 := blk_frozen BK271.out 1; have hfz9_2 := blk_frozen BK271.out 2))
      go_ret
      exact ⟨by first | rfl | (simp [errW_none, errW_some] <;> rfl) | (simp [*, errW_none, errW_some] <;> rfl), by repeat (first | (with_reducible first | exact HB.out | apply below_alloc | apply pw_below_drewN | apply below_drew1 | refine below_set ?_ GE271.out) | exact HB.out)⟩

end Go.Proofs.Ytljenpakncmlkaa.PAll
