-- PRINTED by a session's own changed print
import Derived.Test.YtjeamaahhpbbkaaDoorPAllx0
import Derived.Test.YtjeamaahhpbbkaaDoorPAllx7
import Derived.Test.YtjeamaahhpbbkaaDoorPAllx9
namespace Go.Proofs.YtjeamaahhpbbkaaDoor.PAll
open Go.RowKit Go.Proofs.YtjeamaahhpbbkaaDoorW.PrintWords Go.Proofs.YtjeamaahhpbbkaaDoorW.PrintLast
set_option linter.unusedVariables false
set_option linter.unusedSimpArgs false

/-! ### rational_add: function 38 -/
def rational_add.j0 : Nat → ByteArray → ByteArray → ByteArray → Bool → ByteArray → ByteArray → Bool → ByteArray → ByteArray → Option (Bool × ByteArray × ByteArray)
 | 0, _, _, _, _, _, _, _, _, _ => none
 | k + 1, x5, x6, x7, x400000, x400001, x400002, x401000, x401001, x401002 => if (x400000 == x401000) = true then ((natural_Add.f k x5 x6).bind fun t410 => ((rational_reduced.f k x400000 t410 x7).bind fun bt411 => (some (bt411.1, bt411.2.1, bt411.2.2)))) else ((natural_Subtract.f k x5 x6).bind fun bt414 => (if bt414.2 = true then ((rational_reduced.f k x400000 bt414.1 x7).bind fun bt416 => (some (bt416.1, bt416.2.1, bt416.2.2))) else ((natural_Subtract.f k x6 x5).bind fun bt419 => ((rational_reduced.f k x401000 bt419.1 x7).bind fun bt421 => (some (bt421.1, bt421.2.1, bt421.2.2))))))
def rational_add.f (k : Nat) (a0_0 : Bool) (a0_1 : ByteArray) (a0_2 : ByteArray) (a1_0 : Bool) (a1_1 : ByteArray) (a1_2 : ByteArray) : Option (Bool × ByteArray × ByteArray) := if a0_2.toList = a1_2.toList then ((rational_den.f a0_0 a0_1 a0_2).bind fun t402 => (rational_add.j0 k a0_1 a1_1 t402 a0_0 a0_1 a0_2 a1_0 a1_1 a1_2)) else ((rational_den.f a1_0 a1_1 a1_2).bind fun t403 => ((natural_Multiply.f k a0_1 t403).bind fun t404 => ((rational_den.f a0_0 a0_1 a0_2).bind fun t405 => ((natural_Multiply.f k a1_1 t405).bind fun t406 => ((rational_den.f a0_0 a0_1 a0_2).bind fun t407 => ((rational_den.f a1_0 a1_1 a1_2).bind fun t408 => ((natural_Multiply.f k t407 t408).bind fun t409 => (rational_add.j0 k t404 t406 t409 a0_0 a0_1 a0_2 a1_0 a1_1 a1_2))))))))
theorem rational_add.mono_l : ∀ k, (∀ y0 y1 y2 y3 y4 y5 y6 y7 y8, LeO (rational_add.j0 k y0 y1 y2 y3 y4 y5 y6 y7 y8) (rational_add.j0 (k + 1) y0 y1 y2 y3 y4 y5 y6 y7 y8))
 | 0 => fun _ _ _ _ _ _ _ _ _ r h => by simp [rational_add.j0] at h
 | k + 1 => by
  have ih0 := rational_add.mono_l k
  ·intro y0 y1 y2 y3 y4 y5 y6 y7 y8
   unfold rational_add.j0
   repeat' first
   | (with_reducible exact ih0 _ _ _ _ _ _ _ _ _)
   | (with_reducible exact natural_Add.mono _ _ _)
   | (with_reducible exact natural_Multiply.mono _ _ _)
   | (with_reducible exact natural_Subtract.mono _ _ _)
   | (with_reducible exact rational_reduced.mono _ _ _ _)
   | (with_reducible exact LeO.refl _)
   | (with_reducible exact LeO.none _)
   | (with_reducible refine LeO.ite ?_ ?_)
   | (with_reducible refine LeO.bind ?_ (fun _ => ?_))
   | exact LeO.none _
   | refine LeO.ite ?_ ?_
   | refine LeO.bind ?_ (fun _ => ?_)
theorem rational_add.mono : ∀ a0 a1 a2 a3 a4 a5 k, LeO (rational_add.f k a0 a1 a2 a3 a4 a5) (rational_add.f (k + 1) a0 a1 a2 a3 a4 a5) := by
 intro a0 a1 a2 a3 a4 a5 k
 have ih0 := rational_add.mono_l k
 unfold rational_add.f
 repeat' first
   | (with_reducible exact ih0 _ _ _ _ _ _ _ _ _)
   | (with_reducible exact natural_Add.mono _ _ _)
   | (with_reducible exact natural_Multiply.mono _ _ _)
   | (with_reducible exact natural_Subtract.mono _ _ _)
   | (with_reducible exact rational_reduced.mono _ _ _ _)
   | (with_reducible exact LeO.refl _)
   | (with_reducible exact LeO.none _)
   | (with_reducible refine LeO.ite ?_ ?_)
   | (with_reducible refine LeO.bind ?_ (fun _ => ?_))
   | exact LeO.none _
   | refine LeO.ite ?_ ?_
   | refine LeO.bind ?_ (fun _ => ?_)
def rational_add.T3 : Bool × List (List Nat × List Nat) := (true, [([], []), ([], []), ([1], [1]), ([0, 2, 2], [0, 2]), ([], []), ([], []), ([5, 3], [5]), ([4, 6, 6], [4, 6]), ([3, 7, 0, 1, 2, 3], [0, 3]), ([7, 8, 0, 1, 2, 3, 4, 5, 6, 7, 8], [4, 7])])
def rational_add.B3 : List Nat := [0, 0, 2, 7, 0, 0, 47, 127, 255, 511]
theorem rational_add.tab3 : rtab .any (opsOf Tryd.f38 3) = rational_add.T3 := by kernel_rfl
theorem rational_add.bits3 : waitsOk rational_add.T3.2 rational_add.B3 = true := by kernel_rfl
def rational_add.T7 : Bool × List (List Nat × List Nat) := (true, [([], []), ([0], [0]), ([], []), ([], []), ([2, 3], [2, 3]), ([], []), ([1, 4, 5, 4], [1, 4, 5]), ([6, 6, 0, 1, 2, 3, 4, 5, 6], [6])])
def rational_add.B7 : List Nat := [0, 1, 0, 0, 12, 0, 63, 127]
theorem rational_add.tab7 : rtab .any (opsOf Tryd.f38 7) = rational_add.T7 := by kernel_rfl
theorem rational_add.bits7 : waitsOk rational_add.T7.2 rational_add.B7 = true := by kernel_rfl
set_option maxHeartbeats 8000000 in
set_option maxRecDepth 100000 in
theorem rational_add.calls (k : Nat) (a0_0 : Bool) (a0_1 : ByteArray) (a0_2 : ByteArray) (a1_0 : Bool) (a1_1 : ByteArray) (a1_2 : ByteArray) (r1 : Bool) (r2 : ByteArray) (r3 : ByteArray) (w : World) (h : rational_add.f k a0_0 a0_1 a0_2 a1_0 a1_1 a1_2 = some (r1, r2, r3)) :
  Calls Tryd.prog 38 #[.agg #[.bool a0_0, .string a0_1, .string a0_2], .agg #[.bool a1_0, .string a1_1, .string a1_2]] w fun e w' => e = .returned (.agg #[.bool r1, .string r2, .string r3]) ∧ Below w.heap.size w w' := by
 have hu33 := Tryd.underlying33
 have HB := aM (Below.refl w.heap.size w)
 have H : (if a0_2.toList = a1_2.toList then ((rational_den.f a0_0 a0_1 a0_2).bind fun t402 => (rational_add.j0 k a0_1 a1_1 t402 a0_0 a0_1 a0_2 a1_0 a1_1 a1_2)) else ((rational_den.f a1_0 a1_1 a1_2).bind fun t403 => ((natural_Multiply.f k a0_1 t403).bind fun t404 => ((rational_den.f a0_0 a0_1 a0_2).bind fun t405 => ((natural_Multiply.f k a1_1 t405).bind fun t406 => ((rational_den.f a0_0 a0_1 a0_2).bind fun t407 => ((rational_den.f a1_0 a1_1 a1_2).bind fun t408 => ((natural_Multiply.f k t407 t408).bind fun t409 => (rational_add.j0 k t404 t406 t409 a0_0 a0_1 a0_2 a1_0 a1_1 a1_2))))))))) = some (r1, r2, r3) := h
 clear h
 have HC3 := Aside0.mk H
 clear H
 go_enter Tryd.func38, Tryd.ntmps38
 try go_wp2_with (first | ((with_reducible refine gate_dst (N := 2) rfl ?_); refine box_event ?hg (N := 2) ?hd (cs := #[.bool a0_0, .string a0_1, .string a0_2]) (t := 33) ?hr ?_; (case hd => rfl); (case hg => rfl); (case hr => first | (go_simp; done) | (go_simp; rfl)); intro gb399 hg w4 hbox hb; have n0_ := aM (below_step (bU HB.out) hb); have n1_ := aM (hbox); have n2_ := aM ((by rw [hg]; exact (below_size (bU HB.out)) : w.heap.size ≤ gb399)); have n3_ := aM ((by rw [hg]; exact (below_size (bU HB.out)) : w.heap.size ≤ gb399)); clear HB; have HB := n0_; have BK399 := n1_; have GW399 := n2_; have GE399 := n3_; clear n0_ n1_ n2_ n3_; clear hb hbox hg) | ((with_reducible refine gate_dst (N := 3) rfl ?_); refine box_event ?hg (N := 3) ?hd (cs := #[.bool a1_0, .string a1_1, .string a1_2]) (t := 33) ?hr ?_; (case hd => rfl); (case hg => rfl); (case hr => first | (go_simp; done) | (go_simp; rfl)); intro gb400 hg w5 hbox hb; have n0_ := aM (blk_below (kU BK399.out) hb); have n1_ := aM (below_step (bU HB.out) hb); have n2_ := aM (hbox); have n3_ := aM ((by rw [hg]; exact (below_size (bU HB.out)) : w.heap.size ≤ gb400)); have n4_ := aM ((by rw [hg]; exact (below_size (bU HB.out)) : w.heap.size ≤ gb400)); have n5_ := aM ((by rw [hg]; exact Nat.ne_of_lt (blk_lt (kU BK399.out)) : gb399 ≠ gb400)); have n6_ := aM ((by rw [hg]; exact Nat.ne_of_gt (blk_lt (kU BK399.out)) : gb400 ≠ gb399)); clear BK399; clear HB; have BK399 := n0_; have HB := n1_; have BK400 := n2_; have GW400 := n3_; have GE400 := n4_; have NB399_400 := n5_; have NB400_399 := n6_; clear n0_ n1_ n2_ n3_ n4_ n5_ n6_; clear hb hbox hg) | ((with_reducible refine gate_dst (N := 4) rfl ?_); refine box_event ?hg (N := 4) ?hd (cs := #[.bool false, .string (⟨#[]⟩ : ByteArray), .string (⟨#[]⟩ : ByteArray)]) (t := 33) ?hr ?_; (case hd => rfl); (case hg => rfl); (case hr => first | (go_simp; done) | (go_simp; rfl)); intro gb401 hg w6 hbox hb; have n0_ := aM (blk_below (kU BK399.out) hb); have n1_ := aM (blk_below (kU BK400.out) hb); have n2_ := aM (below_step (bU HB.out) hb); have n3_ := aM (hbox); have n4_ := aM ((by rw [hg]; exact (below_size (bU HB.out)) : w.heap.size ≤ gb401)); have n5_ := aM ((by rw [hg]; exact (below_size (bU HB.out)) : w.heap.size ≤ gb401)); have n6_ := aM ((by rw [hg]; exact Nat.ne_of_lt (blk_lt (kU BK399.out)) : gb399 ≠ gb401)); have n7_ := aM ((by rw [hg]; exact Nat.ne_of_gt (blk_lt (kU BK399.out)) : gb401 ≠ gb399)); have n8_ := aM ((by rw [hg]; exact Nat.ne_of_lt (blk_lt (kU BK400.out)) : gb400 ≠ gb401)); have n9_ := aM ((by rw [hg]; exact Nat.ne_of_gt (blk_lt (kU BK400.out)) : gb401 ≠ gb400)); clear BK399; clear BK400; clear HB; have BK399 := n0_; have BK400 := n1_; have HB := n2_; have BK401 := n3_; have GW401 := n4_; have GE401 := n5_; have NB399_401 := n6_; have NB401_399 := n7_; have NB400_401 := n8_; have NB401_400 := n9_; clear n0_ n1_ n2_ n3_ n4_ n5_ n6_ n7_ n8_ n9_; clear hb hbox hg))
 have n0_ := aM (blk_drew BK399.out)
 have n1_ := aM (blk_drew BK400.out)
 have n2_ := aM (blk_drew BK401.out)
 have n3_ := aM (below_drew1 HB.out)
 clear BK399
 clear BK400
 clear BK401
 clear HB
 have BK399 := n0_
 have BK400 := n1_
 have BK401 := n2_
 have HB := n3_
 clear n0_ n1_ n2_ n3_
 refine start_ (n := 7) (S := fun w' => w'.cell? ⟨gb399, 0, none⟩ = some (.bool a0_0) ∧ w'.cell? ⟨gb399, 1, none⟩ = some (.string a0_1) ∧ w'.cell? ⟨gb399, 2, none⟩ = some (.string a0_2) ∧ w'.cell? ⟨gb400, 0, none⟩ = some (.bool a1_0) ∧ w'.cell? ⟨gb400, 1, none⟩ = some (.string a1_1) ∧ w'.cell? ⟨gb400, 2, none⟩ = some (.string a1_2)) (ds := []) #[false, false, false, false, false, false, false] (by kernel_rfl) rfl rfl ⟨(blk_cell BK399.out 0).trans rfl, (blk_cell BK399.out 1).trans rfl, (blk_cell BK399.out 2).trans rfl, (blk_cell BK400.out 0).trans rfl, (blk_cell BK400.out 1).trans rfl, (blk_cell BK400.out 2).trans rfl⟩ (fun hHeld => ?_)
 generalize w6.drew = w7 at BK399 BK400 BK401 HB hHeld ⊢
 refine pure_ (i := 0) (N := some 12) (v := ?_) (a' := ?_) #[true, false, false, false, false, false, false] rfl rfl (by kernel_rfl) (fun _ _ _ h => h) (Or.inl ⟨by rfl, ?_⟩) ?_ ?_
 rotate_left
 ·intro w'
  go_simp
  with_reducible rfl
 rotate_left
 ·simp only [Act.put, sTA, sC0, sCS, i64_w, i32_w]
  rfl
 refine pure_ (i := 2) (N := some 14) (v := ?_) (a' := ?_) #[true, false, true, false, false, false, false] rfl rfl (by kernel_rfl) (fun _ _ _ h => h) (Or.inl ⟨by rfl, ?_⟩) ?_ ?_
 rotate_left
 ·intro w'
  go_simp
  with_reducible rfl
 rotate_left
 ·simp only [Act.put, sTA, sC0, sCS, i64_w, i32_w]
  rfl
 refine take_ (i := 1) (N := some 13) (v := ?_) (a' := ?_) #[true, true, true, false, false, false, false] rfl rfl (by kernel_rfl) (fun _ _ _ h => h) (Or.inl ⟨by rfl, ?_⟩) hHeld ?_ ?_
 rotate_left
 ·rintro w' ⟨s0, s1, s2, s3, s4, s5⟩
  go_simp
  with_reducible rfl
 rotate_left
 ·simp only [Act.put, sTA, sC0, sCS, i64_w, i32_w]
  rfl
 refine pure_ (i := 4) (N := some 5) (v := ?_) (a' := ?_) #[true, true, true, false, true, false, false] rfl rfl (by kernel_rfl) (fun _ _ _ h => h) (Or.inl ⟨by rfl, ?_⟩) ?_ ?_
 rotate_left
 ·intro w'
  go_simp
  with_reducible rfl
 rotate_left
 ·simp only [Act.put, sTA, sC0, sCS, i64_w, i32_w]
  rfl
 refine take_ (i := 3) (N := some 15) (v := ?_) (a' := ?_) #[true, true, true, true, true, false, false] rfl rfl (by kernel_rfl) (fun _ _ _ h => h) (Or.inl ⟨by rfl, ?_⟩) hHeld ?_ ?_
 rotate_left
 ·rintro w' ⟨s0, s1, s2, s3, s4, s5⟩
  go_simp
  with_reducible rfl
 rotate_left
 ·simp only [Act.put, sTA, sC0, sCS, i64_w, i32_w]
  rfl
 refine pure_ (i := 5) (N := some 6) (v := ?_) (a' := ?_) #[true, true, true, true, true, true, false] rfl rfl (by kernel_rfl) (fun _ _ _ h => h) (Or.inl ⟨by rfl, ?_⟩) ?_ ?_
 rotate_left
 ·intro w'
  go_simp
  with_reducible rfl
 rotate_left
 ·simp only [Act.put, sTA, sC0, sCS, i64_w, i32_w]
  rfl
 refine pure_ (i := 6) (N := some 7) (v := ?_) (a' := ?_) #[true, true, true, true, true, true, true] rfl rfl (by kernel_rfl) (fun _ _ _ h => h) (Or.inl ⟨by rfl, ?_⟩) ?_ ?_
 rotate_left
 ·intro w'
  go_simp
  with_reducible rfl
 rotate_left
 ·simp only [Act.put, sTA, sC0, sCS, i64_w, i32_w]
  rfl
 refine done_ (by kernel_rfl) ?_
 have hnb8 := NB399_400.out
 have hnc8 := NB400_399.out
 have hnb9 := NB399_401.out
 have hnc9 := NB401_399.out
 obtain ⟨hcz10_0, hcz10_1, hcz10_2, hfz10_0, hfz10_1, hfz10_2⟩ := cz3 BK399.out
 have hnb11 := NB400_401.out
 have hnc11 := NB401_400.out
 obtain ⟨hcz12_0, hcz12_1, hcz12_2, hfz12_0, hfz12_1, hfz12_2⟩ := cz3 BK400.out
 go_upto_if 20 with (fail)
 go_cut [5, 6, 7] (fun v5 v6 v7 wc => ∃ (kq : Nat) (x5_2 : ByteArray) (x6_2 : ByteArray) (x7_2 : ByteArray), v5 = .string x5_2 ∧ v6 = .string x6_2 ∧ v7 = .string x7_2 ∧ Aside0 (rational_add.j0 kq x5_2 x6_2 x7_2 a0_0 a0_1 a0_2 a1_0 a1_1 a1_2 = some (r1, r2, r3)) ∧ Aside0 (kq ≤ k) ∧ Aside0 (wc.heap[gb399]? = some (.cells #[.bool a0_0, .string a0_1, .string a0_2] 33 (0, 0))) ∧ Aside0 (wc.heap[gb400]? = some (.cells #[.bool a1_0, .string a1_1, .string a1_2] 33 (0, 0))) ∧ Aside0 (wc.heap[gb401]? = some (.cells #[.bool false, .string (⟨#[]⟩ : ByteArray), .string (⟨#[]⟩ : ByteArray)] 33 (0, 0))) ∧ Aside0 (Below w.heap.size w wc))
 case first =>
  have H := HC3.out
  clear HC3
  by_cases c13 : a0_2.toList = a1_2.toList
  ·rw [if_pos c13] at H
   have c13b0 : (a0_2.toList == a1_2.toList) = true := beq_iff_eq.mpr c13
   have c13b1 : (a0_2.toList != a1_2.toList) = false := bne_eq_false_iff_eq.mpr c13
   clear c13
   (first | rw [c13b0] | (simp only [i64_w, i32_w]; rw [c13b0]) | rw [c13b1] | skip)
   replace H := bE H
   obtain ⟨t402, A140, H⟩ := H
   replace H : (rational_add.j0 k a0_1 a1_1 t402 a0_0 a0_1 a0_2 a1_0 a1_1 a1_2) = some (r1, r2, r3) := H
   have A14 := Aside0.mk A140
   clear A140
   have H' := Aside0.mk H
   clear H
   have hnb15 := NB399_400.out
   have hnc15 := NB400_399.out
   have hnb16 := NB399_401.out
   have hnc16 := NB401_399.out
   obtain ⟨hcz17_0, hcz17_1, hcz17_2, hfz17_0, hfz17_1, hfz17_2⟩ := cz3 BK399.out
   go_wp2_with (first | ((with_reducible refine gate_callee (f := 36) rfl ?_); refine goesLq (some 35) rfl rfl Tryd.func36 #[.agg #[.bool a0_0, .string a0_1, .string a0_2]] rfl ?_; (with_reducible refine (rational_den.calls a0_0 a0_1 a0_2 t402 _ A14.out).mono ?_); rintro e w18 ⟨rfl, hb⟩; refine ⟨_, rfl, ?_⟩; have n0_ := aM (blk_below (kU BK399.out) hb); have n1_ := aM (blk_below (kU BK400.out) hb); have n2_ := aM (blk_below (kU BK401.out) hb); have n3_ := aM (below_step (bU HB.out) hb); clear BK399; clear BK400; clear BK401; clear HB; have BK399 := n0_; have BK400 := n1_; have BK401 := n2_; have HB := n3_; clear n0_ n1_ n2_ n3_; (try clear hb); (try clear hb2); (try clear hk); (try clear hi)))
   go_meet
   case rel => exact ⟨_, (a0_1), (a1_1), (t402), (by first | rfl | (simp; done) | (simp [*]; done)), (by first | rfl | (simp; done) | (simp [*]; done)), (by first | rfl | (simp; done) | (simp [*]; done)), H', ⟨by first | omega | exact Nat.le_refl _⟩, ⟨kU BK399.out⟩, ⟨kU BK400.out⟩, ⟨kU BK401.out⟩, ⟨bU HB.out⟩⟩
  ·rw [if_neg c13] at H
   have c13b0 : (a0_2.toList == a1_2.toList) = false := beq_eq_false_iff_ne.mpr c13
   have c13b1 : (a0_2.toList != a1_2.toList) = true := bne_iff_ne.mpr c13
   (first | rw [c13b0] | (simp only [i64_w, i32_w]; rw [c13b0]) | rw [c13b1] | skip)
   replace H := bE H
   obtain ⟨t403, A190, H⟩ := H
   replace H : ((natural_Multiply.f k a0_1 t403).bind fun t404 => ((rational_den.f a0_0 a0_1 a0_2).bind fun t405 => ((natural_Multiply.f k a1_1 t405).bind fun t406 => ((rational_den.f a0_0 a0_1 a0_2).bind fun t407 => ((rational_den.f a1_0 a1_1 a1_2).bind fun t408 => ((natural_Multiply.f k t407 t408).bind fun t409 => (rational_add.j0 k t404 t406 t409 a0_0 a0_1 a0_2 a1_0 a1_1 a1_2))))))) = some (r1, r2, r3) := H
   have A19 := Aside0.mk A190
   clear A190
   replace H := bE H
   obtain ⟨t404, A200, H⟩ := H
   replace H : ((rational_den.f a0_0 a0_1 a0_2).bind fun t405 => ((natural_Multiply.f k a1_1 t405).bind fun t406 => ((rational_den.f a0_0 a0_1 a0_2).bind fun t407 => ((rational_den.f a1_0 a1_1 a1_2).bind fun t408 => ((natural_Multiply.f k t407 t408).bind fun t409 => (rational_add.j0 k t404 t406 t409 a0_0 a0_1 a0_2 a1_0 a1_1 a1_2)))))) = some (r1, r2, r3) := H
   have A20 := Aside0.mk A200
   clear A200
   replace H := bE H
   obtain ⟨t405, A210, H⟩ := H
   replace H : ((natural_Multiply.f k a1_1 t405).bind fun t406 => ((rational_den.f a0_0 a0_1 a0_2).bind fun t407 => ((rational_den.f a1_0 a1_1 a1_2).bind fun t408 => ((natural_Multiply.f k t407 t408).bind fun t409 => (rational_add.j0 k t404 t406 t409 a0_0 a0_1 a0_2 a1_0 a1_1 a1_2))))) = some (r1, r2, r3) := H
   have A21 := Aside0.mk A210
   clear A210
   replace H := bE H
   obtain ⟨t406, A220, H⟩ := H
   replace H : ((rational_den.f a0_0 a0_1 a0_2).bind fun t407 => ((rational_den.f a1_0 a1_1 a1_2).bind fun t408 => ((natural_Multiply.f k t407 t408).bind fun t409 => (rational_add.j0 k t404 t406 t409 a0_0 a0_1 a0_2 a1_0 a1_1 a1_2)))) = some (r1, r2, r3) := H
   have A22 := Aside0.mk A220
   clear A220
   replace H := bE H
   obtain ⟨t407, A230, H⟩ := H
   replace H : ((rational_den.f a1_0 a1_1 a1_2).bind fun t408 => ((natural_Multiply.f k t407 t408).bind fun t409 => (rational_add.j0 k t404 t406 t409 a0_0 a0_1 a0_2 a1_0 a1_1 a1_2))) = some (r1, r2, r3) := H
   have A23 := Aside0.mk A230
   clear A230
   replace H := bE H
   obtain ⟨t408, A240, H⟩ := H
   replace H : ((natural_Multiply.f k t407 t408).bind fun t409 => (rational_add.j0 k t404 t406 t409 a0_0 a0_1 a0_2 a1_0 a1_1 a1_2)) = some (r1, r2, r3) := H
   have A24 := Aside0.mk A240
   clear A240
   replace H := bE H
   obtain ⟨t409, A250, H⟩ := H
   replace H : (rational_add.j0 k t404 t406 t409 a0_0 a0_1 a0_2 a1_0 a1_1 a1_2) = some (r1, r2, r3) := H
   have A25 := Aside0.mk A250
   clear A250
   have H' := Aside0.mk H
   clear H
   try go_wp2
   have n0_ := aM (blk_drew BK399.out)
   have n1_ := aM (blk_drew BK400.out)
   have n2_ := aM (blk_drew BK401.out)
   have n3_ := aM (below_drew1 HB.out)
   clear BK399
   clear BK400
   clear BK401
   clear HB
   have BK399 := n0_
   have BK400 := n1_
   have BK401 := n2_
   have HB := n3_
   clear n0_ n1_ n2_ n3_
   refine start_ (n := 10) (S := fun w' => w'.cell? ⟨gb400, 0, none⟩ = some (.bool a1_0) ∧ w'.cell? ⟨gb400, 1, none⟩ = some (.string a1_1) ∧ w'.cell? ⟨gb400, 2, none⟩ = some (.string a1_2) ∧ w'.cell? ⟨gb399, 0, none⟩ = some (.bool a0_0) ∧ w'.cell? ⟨gb399, 1, none⟩ = some (.string a0_1) ∧ w'.cell? ⟨gb399, 2, none⟩ = some (.string a0_2)) (ds := []) #[false, false, false, false, false, false, false, false, false, false] (by kernel_rfl) rfl rfl ⟨(blk_cell BK400.out 0).trans rfl, (blk_cell BK400.out 1).trans rfl, (blk_cell BK400.out 2).trans rfl, (blk_cell BK399.out 0).trans rfl, (blk_cell BK399.out 1).trans rfl, (blk_cell BK399.out 2).trans rfl⟩ (fun hHeld => ?_); refine with_tabW rational_add.tab3 rational_add.bits3 (fun HT_ HW_ => ?_)
   generalize w7.drew = w26 at BK399 BK400 BK401 HB hHeld ⊢
   refine pureq (i := 0) (N := some 21) HT_.out rfl rfl ?_
   refine pureq (i := 4) (N := some 25) HT_.out rfl rfl ?_
   refine takeq (i := 1) (N := some 22) HT_.out HW_.out hHeld rfl rfl ?_
   refine takeq (i := 5) (N := some 26) HT_.out HW_.out hHeld rfl rfl ?_
   refine one_ (i := 2) (N := some 23) #[true, true, true, false, true, true, false, false, false, false] rfl rfl (one_of HT_.out (by kernel_rfl)) (by decide) (fun K hK => ?_)
   refine goesq Tryd.func36 #[.agg #[.bool a1_0, .string a1_1, .string a1_2]] (by rfl) rfl rfl ?_
   with_reducible refine (rational_den.calls a1_0 a1_1 a1_2 t403 _ A19.out).mono ?_
   rintro e w27 ⟨rfl, hb⟩
   refine ⟨_, rfl, ?_⟩
   have n0_ := aM (blk_below (kU BK399.out) hb)
   have n1_ := aM (blk_below (kU BK400.out) hb)
   have n2_ := aM (blk_below (kU BK401.out) hb)
   have n3_ := aM (below_step (bU HB.out) hb)
   clear BK399
   clear BK400
   clear BK401
   clear HB
   have BK399 := n0_
   have BK400 := n1_
   have BK401 := n2_
   have HB := n3_
   clear n0_ n1_ n2_ n3_
   (try clear hb)
   (try clear hb2)
   (try clear hk)
   (try clear hi)
   refine hK.out _ _ ⟨(blk_cell BK400.out 0).trans rfl, (blk_cell BK400.out 1).trans rfl, (blk_cell BK400.out 2).trans rfl, (blk_cell BK399.out 0).trans rfl, (blk_cell BK399.out 1).trans rfl, (blk_cell BK399.out 2).trans rfl⟩ (fun hHeld => ?_)
   clear hK K
   refine norm_ (a' := ?_) ?_ ?_
   rotate_left
   ·show Act.put _ (some 23) _ = _
    simp only [Act.put, sTA, sC0, sCS, i64_w, i32_w]
    rfl
   refine one_ (i := 3) (N := some 24) #[true, true, true, true, true, true, false, false, false, false] rfl rfl (one_of HT_.out (by kernel_rfl)) (by decide) (fun K hK => ?_)
   refine goesq Tryd.func35 #[.string a0_1, .string t403] (by rfl) rfl rfl ?_
   with_reducible refine (natural_Multiply.calls k a0_1 t403 t404 _ A20.out).mono ?_
   rintro e w28 ⟨rfl, hb⟩
   refine ⟨_, rfl, ?_⟩
   have n0_ := aM (blk_below (kU BK399.out) hb)
   have n1_ := aM (blk_below (kU BK400.out) hb)
   have n2_ := aM (blk_below (kU BK401.out) hb)
   have n3_ := aM (below_step (bU HB.out) hb)
   clear BK399
   clear BK400
   clear BK401
   clear HB
   have BK399 := n0_
   have BK400 := n1_
   have BK401 := n2_
   have HB := n3_
   clear n0_ n1_ n2_ n3_
   (try clear hb)
   (try clear hb2)
   (try clear hk)
   (try clear hi)
   refine hK.out _ _ ⟨(blk_cell BK400.out 0).trans rfl, (blk_cell BK400.out 1).trans rfl, (blk_cell BK400.out 2).trans rfl, (blk_cell BK399.out 0).trans rfl, (blk_cell BK399.out 1).trans rfl, (blk_cell BK399.out 2).trans rfl⟩ (fun hHeld => ?_)
   clear hK K
   refine norm_ (a' := ?_) ?_ ?_
   rotate_left
   ·show Act.put _ (some 24) _ = _
    simp only [Act.put, sTA, sC0, sCS, i64_w, i32_w]
    rfl
   refine one_ (i := 6) (N := some 27) #[true, true, true, true, true, true, true, false, false, false] rfl rfl (one_of HT_.out (by kernel_rfl)) (by decide) (fun K hK => ?_)
   refine goesq Tryd.func36 #[.agg #[.bool a0_0, .string a0_1, .string a0_2]] (by rfl) rfl rfl ?_
   with_reducible refine (rational_den.calls a0_0 a0_1 a0_2 t405 _ A21.out).mono ?_
   rintro e w29 ⟨rfl, hb⟩
   refine ⟨_, rfl, ?_⟩
   have n0_ := aM (blk_below (kU BK399.out) hb)
   have n1_ := aM (blk_below (kU BK400.out) hb)
   have n2_ := aM (blk_below (kU BK401.out) hb)
   have n3_ := aM (below_step (bU HB.out) hb)
   clear BK399
   clear BK400
   clear BK401
   clear HB
   have BK399 := n0_
   have BK400 := n1_
   have BK401 := n2_
   have HB := n3_
   clear n0_ n1_ n2_ n3_
   (try clear hb)
   (try clear hb2)
   (try clear hk)
   (try clear hi)
   refine hK.out _ _ ⟨(blk_cell BK400.out 0).trans rfl, (blk_cell BK400.out 1).trans rfl, (blk_cell BK400.out 2).trans rfl, (blk_cell BK399.out 0).trans rfl, (blk_cell BK399.out 1).trans rfl, (blk_cell BK399.out 2).trans rfl⟩ (fun hHeld => ?_)
   clear hK K
   refine norm_ (a' := ?_) ?_ ?_
   rotate_left
   ·show Act.put _ (some 27) _ = _
    simp only [Act.put, sTA, sC0, sCS, i64_w, i32_w]
    rfl
   refine one_ (i := 7) (N := some 28) #[true, true, true, true, true, true, true, true, false, false] rfl rfl (one_of HT_.out (by kernel_rfl)) (by decide) (fun K hK => ?_)
   refine goesq Tryd.func35 #[.string a1_1, .string t405] (by rfl) rfl rfl ?_
   with_reducible refine (natural_Multiply.calls k a1_1 t405 t406 _ A22.out).mono ?_
   rintro e w30 ⟨rfl, hb⟩
   refine ⟨_, rfl, ?_⟩
   have n0_ := aM (blk_below (kU BK399.out) hb)
   have n1_ := aM (blk_below (kU BK400.out) hb)
   have n2_ := aM (blk_below (kU BK401.out) hb)
   have n3_ := aM (below_step (bU HB.out) hb)
   clear BK399
   clear BK400
   clear BK401
   clear HB
   have BK399 := n0_
   have BK400 := n1_
   have BK401 := n2_
   have HB := n3_
   clear n0_ n1_ n2_ n3_
   (try clear hb)
   (try clear hb2)
   (try clear hk)
   (try clear hi)
   refine hK.out _ _ ⟨(blk_cell BK400.out 0).trans rfl, (blk_cell BK400.out 1).trans rfl, (blk_cell BK400.out 2).trans rfl, (blk_cell BK399.out 0).trans rfl, (blk_cell BK399.out 1).trans rfl, (blk_cell BK399.out 2).trans rfl⟩ (fun hHeld => ?_)
   clear hK K
   refine norm_ (a' := ?_) ?_ ?_
   rotate_left
   ·show Act.put _ (some 28) _ = _
    simp only [Act.put, sTA, sC0, sCS, i64_w, i32_w]
    rfl
   refine pureq (i := 8) (N := some 5) HT_.out rfl rfl ?_
   refine pureq (i := 9) (N := some 6) HT_.out rfl rfl ?_
   refine done_ (done_of HT_.out (by kernel_rfl)) ?_
   try go_wp2
   have n0_ := aM (blk_drew BK399.out)
   have n1_ := aM (blk_drew BK400.out)
   have n2_ := aM (blk_drew BK401.out)
   have n3_ := aM (below_drew1 HB.out)
   clear BK399
   clear BK400
   clear BK401
   clear HB
   have BK399 := n0_
   have BK400 := n1_
   have BK401 := n2_
   have HB := n3_
   clear n0_ n1_ n2_ n3_
   refine start_ (n := 6) (S := fun w' => w'.cell? ⟨gb399, 0, none⟩ = some (.bool a0_0) ∧ w'.cell? ⟨gb399, 1, none⟩ = some (.string a0_1) ∧ w'.cell? ⟨gb399, 2, none⟩ = some (.string a0_2) ∧ w'.cell? ⟨gb400, 0, none⟩ = some (.bool a1_0) ∧ w'.cell? ⟨gb400, 1, none⟩ = some (.string a1_1) ∧ w'.cell? ⟨gb400, 2, none⟩ = some (.string a1_2)) (ds := []) #[false, false, false, false, false, false] (by kernel_rfl) rfl rfl ⟨(blk_cell BK399.out 0).trans rfl, (blk_cell BK399.out 1).trans rfl, (blk_cell BK399.out 2).trans rfl, (blk_cell BK400.out 0).trans rfl, (blk_cell BK400.out 1).trans rfl, (blk_cell BK400.out 2).trans rfl⟩ (fun hHeld => ?_)
   generalize w30.drew = w31 at BK399 BK400 BK401 HB hHeld ⊢
   refine take_ (i := 0) (N := some 29) (v := ?_) (a' := ?_) #[true, false, false, false, false, false] rfl rfl (by kernel_rfl) (fun _ _ _ h => h) (Or.inl ⟨by rfl, ?_⟩) hHeld ?_ ?_
   rotate_left
   ·rintro w' ⟨s0, s1, s2, s3, s4, s5⟩
    go_simp
    with_reducible rfl
   rotate_left
   ·simp only [Act.put, sTA, sC0, sCS, i64_w, i32_w]
    rfl
   refine take_ (i := 2) (N := some 31) (v := ?_) (a' := ?_) #[true, false, true, false, false, false] rfl rfl (by kernel_rfl) (fun _ _ _ h => h) (Or.inl ⟨by rfl, ?_⟩) hHeld ?_ ?_
   rotate_left
   ·rintro w' ⟨s0, s1, s2, s3, s4, s5⟩
    go_simp
    with_reducible rfl
   rotate_left
   ·simp only [Act.put, sTA, sC0, sCS, i64_w, i32_w]
    rfl
   refine one_ (i := 1) (N := some 30) #[true, true, true, false, false, false] rfl rfl (by kernel_rfl) (by decide) (fun K hK => ?_)
   refine goesq Tryd.func36 #[.agg #[.bool a0_0, .string a0_1, .string a0_2]] (by rfl) rfl rfl ?_
   with_reducible refine (rational_den.calls a0_0 a0_1 a0_2 t407 _ A23.out).mono ?_
   rintro e w32 ⟨rfl, hb⟩
   refine ⟨_, rfl, ?_⟩
   have n0_ := aM (blk_below (kU BK399.out) hb)
   have n1_ := aM (blk_below (kU BK400.out) hb)
   have n2_ := aM (blk_below (kU BK401.out) hb)
   have n3_ := aM (below_step (bU HB.out) hb)
   clear BK399
   clear BK400
   clear BK401
   clear HB
   have BK399 := n0_
   have BK400 := n1_
   have BK401 := n2_
   have HB := n3_
   clear n0_ n1_ n2_ n3_
   (try clear hb)
   (try clear hb2)
   (try clear hk)
   (try clear hi)
   refine hK.out _ _ ⟨(blk_cell BK399.out 0).trans rfl, (blk_cell BK399.out 1).trans rfl, (blk_cell BK399.out 2).trans rfl, (blk_cell BK400.out 0).trans rfl, (blk_cell BK400.out 1).trans rfl, (blk_cell BK400.out 2).trans rfl⟩ (fun hHeld => ?_)
   clear hK K
   refine norm_ (a' := ?_) ?_ ?_
   rotate_left
   ·show Act.put _ (some 30) _ = _
    simp only [Act.put, sTA, sC0, sCS, i64_w, i32_w]
    rfl
   refine one_ (i := 3) (N := some 32) #[true, true, true, true, false, false] rfl rfl (by kernel_rfl) (by decide) (fun K hK => ?_)
   refine goesq Tryd.func36 #[.agg #[.bool a1_0, .string a1_1, .string a1_2]] (by rfl) rfl rfl ?_
   with_reducible refine (rational_den.calls a1_0 a1_1 a1_2 t408 _ A24.out).mono ?_
   rintro e w33 ⟨rfl, hb⟩
   refine ⟨_, rfl, ?_⟩
   have n0_ := aM (blk_below (kU BK399.out) hb)
   have n1_ := aM (blk_below (kU BK400.out) hb)
   have n2_ := aM (blk_below (kU BK401.out) hb)
   have n3_ := aM (below_step (bU HB.out) hb)
   clear BK399
   clear BK400
   clear BK401
   clear HB
   have BK399 := n0_
   have BK400 := n1_
   have BK401 := n2_
   have HB := n3_
   clear n0_ n1_ n2_ n3_
   (try clear hb)
   (try clear hb2)
   (try clear hk)
   (try clear hi)
   refine hK.out _ _ ⟨(blk_cell BK399.out 0).trans rfl, (blk_cell BK399.out 1).trans rfl, (blk_cell BK399.out 2).trans rfl, (blk_cell BK400.out 0).trans rfl, (blk_cell BK400.out 1).trans rfl, (blk_cell BK400.out 2).trans rfl⟩ (fun hHeld => ?_)
   clear hK K
   refine norm_ (a' := ?_) ?_ ?_
   rotate_left
   ·show Act.put _ (some 32) _ = _
    simp only [Act.put, sTA, sC0, sCS, i64_w, i32_w]
    rfl
   refine one_ (i := 4) (N := some 33) #[true, true, true, true, true, false] rfl rfl (by kernel_rfl) (by decide) (fun K hK => ?_)
   refine goesq Tryd.func35 #[.string t407, .string t408] (by rfl) rfl rfl ?_
   with_reducible refine (natural_Multiply.calls k t407 t408 t409 _ A25.out).mono ?_
   rintro e w34 ⟨rfl, hb⟩
   refine ⟨_, rfl, ?_⟩
   have n0_ := aM (blk_below (kU BK399.out) hb)
   have n1_ := aM (blk_below (kU BK400.out) hb)
   have n2_ := aM (blk_below (kU BK401.out) hb)
   have n3_ := aM (below_step (bU HB.out) hb)
   clear BK399
   clear BK400
   clear BK401
   clear HB
   have BK399 := n0_
   have BK400 := n1_
   have BK401 := n2_
   have HB := n3_
   clear n0_ n1_ n2_ n3_
   (try clear hb)
   (try clear hb2)
   (try clear hk)
   (try clear hi)
   refine hK.out _ _ ⟨(blk_cell BK399.out 0).trans rfl, (blk_cell BK399.out 1).trans rfl, (blk_cell BK399.out 2).trans rfl, (blk_cell BK400.out 0).trans rfl, (blk_cell BK400.out 1).trans rfl, (blk_cell BK400.out 2).trans rfl⟩ (fun hHeld => ?_)
   clear hK K
   refine norm_ (a' := ?_) ?_ ?_
   rotate_left
   ·show Act.put _ (some 33) _ = _
    simp only [Act.put, sTA, sC0, sCS, i64_w, i32_w]
    rfl
   refine pure_ (i := 5) (N := some 7) (v := ?_) (a' := ?_) #[true, true, true, true, true, true] rfl rfl (by kernel_rfl) (fun _ _ _ h => h) (Or.inl ⟨by rfl, ?_⟩) ?_ ?_
   rotate_left
   ·intro w'
    go_simp
    with_reducible rfl
   rotate_left
   ·simp only [Act.put, sTA, sC0, sCS, i64_w, i32_w]
    rfl
   refine done_ (by kernel_rfl) ?_
   try go_wp2
   go_meet
   case rel => exact ⟨_, (t404), (t406), (t409), (by first | rfl | (simp; done) | (simp [*]; done)), (by first | rfl | (simp; done) | (simp [*]; done)), (by first | rfl | (simp; done) | (simp [*]; done)), H', ⟨by first | omega | exact Nat.le_refl _⟩, ⟨kU BK399.out⟩, ⟨kU BK400.out⟩, ⟨kU BK401.out⟩, ⟨bU HB.out⟩⟩
 case rest =>
  clear HC3
  (try clear c1); (try clear p2); (try clear c3); (try clear c8); (try clear c9); (try clear c11); (try clear c13); (try clear c13b0); (try clear c13b1); (try clear c15); (try clear c16); (try clear hcz10_0 hcz10_1 hcz10_2); (try clear hcz12_0 hcz12_1 hcz12_2); (try clear hcz17_0 hcz17_1 hcz17_2); (try clear hfz10_0 hfz10_1 hfz10_2); (try clear hfz12_0 hfz12_1 hfz12_2); (try clear hfz17_0 hfz17_1 hfz17_2)
  obtain ⟨kq, x5_2, x6_2, x7_2, rfl, rfl, rfl, HA, HJ2, BK399, BK400, BK401, HB⟩ := hcut
  cases kq with
  | zero => exact absurd HA.out (by simp [rational_add.j0])
  | succ kj2 =>
   have H := HA.out
   clear HA
   simp only [rational_add.j0] at H
   by_cases c35 : (a0_0 == a1_0) = true
   ·rw [if_pos c35] at H
    have c35b0 : (a0_0 == a1_0) = true := c35
    (try (have c35b1 : decide (a0_0 = a1_0) = true := by simpa using c35))
    (try (have c35b2 : (a0_0 == a1_0) = true := by simpa using c35))
    clear c35
    replace H := bE H
    obtain ⟨t410, A360, H⟩ := H
    replace H : ((rational_reduced.f kj2 a0_0 t410 x7_2).bind fun bt411 => (some (bt411.1, bt411.2.1, bt411.2.2))) = some (r1, r2, r3) := H
    have A36 := Aside0.mk A360
    clear A360
    replace H := bE H
    obtain ⟨⟨t411, t412, t413⟩, A370, H⟩ := H
    replace H : (some (t411, t412, t413)) = some (r1, r2, r3) := H
    have A37 := Aside0.mk A370
    clear A370
    simp only [Option.some.injEq, Prod.mk.injEq] at H
    obtain ⟨rfl, rfl, rfl⟩ := H
    have hnb38 := NB399_400.out
    have hnc38 := NB400_399.out
    have hnb39 := NB399_401.out
    have hnc39 := NB401_399.out
    obtain ⟨hcz40_0, hcz40_1, hcz40_2, hfz40_0, hfz40_1, hfz40_2⟩ := cz3 BK399.out
    have hnb41 := NB400_401.out
    have hnc41 := NB401_400.out
    obtain ⟨hcz42_0, hcz42_1, hcz42_2, hfz42_0, hfz42_1, hfz42_2⟩ := cz3 BK400.out
    try go_wp2
    have n0_ := aM (blk_drew BK399.out)
    have n1_ := aM (blk_drew BK400.out)
    have n2_ := aM (blk_drew BK401.out)
    have n3_ := aM (below_drew1 HB.out)
    clear BK399
    clear BK400
    clear BK401
    clear HB
    have BK399 := n0_
    have BK400 := n1_
    have BK401 := n2_
    have HB := n3_
    clear n0_ n1_ n2_ n3_
    refine start_ (n := 8) (S := fun w' => w'.cell? ⟨gb399, 0, none⟩ = some (.bool a0_0) ∧ w'.cell? ⟨gb399, 1, none⟩ = some (.string a0_1) ∧ w'.cell? ⟨gb399, 2, none⟩ = some (.string a0_2)) (ds := []) #[false, false, false, false, false, false, false, false] (by kernel_rfl) rfl rfl ⟨(blk_cell BK399.out 0).trans rfl, (blk_cell BK399.out 1).trans rfl, (blk_cell BK399.out 2).trans rfl⟩ (fun hHeld => ?_); refine with_tabW rational_add.tab7 rational_add.bits7 (fun HT_ HW_ => ?_)
    generalize wc.drew = w43 at BK399 BK400 BK401 HB hHeld ⊢
    refine pureq (i := 0) (N := some 41) HT_.out rfl rfl ?_
    refine pureq (i := 2) (N := some 43) HT_.out rfl rfl ?_
    refine pureq (i := 3) (N := some 44) HT_.out rfl rfl ?_
    refine pureq (i := 5) (N := some 46) HT_.out rfl rfl ?_
    refine takeq (i := 1) (N := some 42) HT_.out HW_.out hHeld rfl rfl ?_
    refine one_ (i := 4) (N := some 45) #[true, true, true, true, true, true, false, false] rfl rfl (one_of HT_.out (by kernel_rfl)) (by decide) (fun K hK => ?_)
    refine goesq Tryd.func56 #[.string x5_2, .string x6_2] (by rfl) rfl rfl ?_
    with_reducible refine (natural_Add.calls kj2 x5_2 x6_2 t410 _ A36.out).mono ?_
    rintro e w44 ⟨rfl, hb⟩
    refine ⟨_, rfl, ?_⟩
    have n0_ := aM (blk_below (kU BK399.out) hb)
    have n1_ := aM (blk_below (kU BK400.out) hb)
    have n2_ := aM (blk_below (kU BK401.out) hb)
    have n3_ := aM (below_step (bU HB.out) hb)
    clear BK399
    clear BK400
    clear BK401
    clear HB
    have BK399 := n0_
    have BK400 := n1_
    have BK401 := n2_
    have HB := n3_
    clear n0_ n1_ n2_ n3_
    (try clear hb)
    (try clear hb2)
    (try clear hk)
    (try clear hi)
    refine hK.out _ _ ⟨(blk_cell BK399.out 0).trans rfl, (blk_cell BK399.out 1).trans rfl, (blk_cell BK399.out 2).trans rfl⟩ (fun hHeld => ?_)
    clear hK K
    refine norm_ (a' := ?_) ?_ ?_
    rotate_left
    ·show Act.put _ (some 45) _ = _
     simp only [Act.put, sTA, sC0, sCS, i64_w, i32_w]
     rfl
    refine one_ (i := 6) (N := some 47) #[true, true, true, true, true, true, true, false] rfl rfl (one_of HT_.out (by kernel_rfl)) (by decide) (fun K hK => ?_)
    refine goesq Tryd.func39 #[.bool a0_0, .string t410, .string x7_2] (by rfl) rfl rfl ?_
    with_reducible refine (rational_reduced.calls kj2 a0_0 t410 x7_2 t411 t412 t413 _ A37.out).mono ?_
    rintro e w45 ⟨rfl, hb⟩
    refine ⟨_, rfl, ?_⟩
    have n0_ := aM (blk_below (kU BK399.out) hb)
    have n1_ := aM (blk_below (kU BK400.out) hb)
    have n2_ := aM (blk_below (kU BK401.out) hb)
    have n3_ := aM (below_step (bU HB.out) hb)
    clear BK399
    clear BK400
    clear BK401
    clear HB
    have BK399 := n0_
    have BK400 := n1_
    have BK401 := n2_
    have HB := n3_
    clear n0_ n1_ n2_ n3_
    (try clear hb)
    (try clear hb2)
    (try clear hk)
    (try clear hi)
    refine hK.out _ _ ⟨(blk_cell BK399.out 0).trans rfl, (blk_cell BK399.out 1).trans rfl, (blk_cell BK399.out 2).trans rfl⟩ (fun hHeld => ?_)
    clear hK K
    refine norm_ (a' := ?_) ?_ ?_
    rotate_left
    ·show Act.put _ (some 47) _ = _
     simp only [Act.put, sTA, sC0, sCS, i64_w, i32_w]
     rfl
    refine one_ (i := 7) (N := none) #[true, true, true, true, true, true, true, true] rfl rfl (one_of HT_.out (by kernel_rfl)) (by decide) (fun K hK => ?_)
    have hs46 : w45.cell? ⟨gb401, 0, none⟩ = some (.bool false) := (blk_cell BK401.out 0).trans rfl
    have hfs46 := blk_frozen BK401.out 0
    have hns46_0 := NB399_401.out
    have hns46_1 := NB400_401.out
    have hms46_0 := NB401_399.out
    have hms46_1 := NB401_400.out
    have hs47 : w45.cell? ⟨gb401, 1, none⟩ = some (.string (⟨#[]⟩ : ByteArray)) := (blk_cell BK401.out 1).trans rfl
    have hfs47 := blk_frozen BK401.out 1
    have hns47_0 := NB399_401.out
    have hns47_1 := NB400_401.out
    have hms47_0 := NB401_399.out
    have hms47_1 := NB401_400.out
    have hs48 : w45.cell? ⟨gb401, 2, none⟩ = some (.string (⟨#[]⟩ : ByteArray)) := (blk_cell BK401.out 2).trans rfl
    have hfs48 := blk_frozen BK401.out 2
    have hns48_0 := NB399_401.out
    have hns48_1 := NB400_401.out
    have hms48_0 := NB401_399.out
    have hms48_1 := NB401_400.out
    refine skip_ (w1 := ?_) (by rfl) rfl ?_ ?_
    rotate_left
    ·go_simp
     rfl
    refine hK.out _ _ ⟨((cell_far (p := ⟨gb401, _, none⟩) NB399_401.out _).trans (((cell_far (p := ⟨gb401, _, none⟩) NB399_401.out _).trans (((cell_far (p := ⟨gb401, _, none⟩) NB399_401.out _).trans (hHeld.1)))))), ((cell_far (p := ⟨gb401, _, none⟩) NB399_401.out _).trans (((cell_far (p := ⟨gb401, _, none⟩) NB399_401.out _).trans (((cell_far (p := ⟨gb401, _, none⟩) NB399_401.out _).trans (hHeld.2.1)))))), ((cell_far (p := ⟨gb401, _, none⟩) NB399_401.out _).trans (((cell_far (p := ⟨gb401, _, none⟩) NB399_401.out _).trans (((cell_far (p := ⟨gb401, _, none⟩) NB399_401.out _).trans (hHeld.2.2))))))⟩ (fun hHeld => ?_)
    clear hK K
    refine done_ (done_of HT_.out (by kernel_rfl)) ?_
    try go_wp2
    refine bodyPost_ret (results_cell_row rfl _ _ gb401 33 #[.bool t411, .string t412, .string t413] (0, 0) _ rfl (kP BK401.out) Tryd.underlying33 rfl (by kernel_rfl)) rfl ?_
    exact ⟨by first | rfl | (simp [errW_none, errW_some] <;> rfl) | (simp [*, errW_none, errW_some] <;> rfl), bU HB.out⟩
   ·rw [if_neg c35] at H
    have c35b0 : (a0_0 == a1_0) = false := by simpa using c35
    (try (have c35b1 : decide (a0_0 = a1_0) = false := by simpa using c35))
    (try (have c35b2 : (a0_0 == a1_0) = false := by simpa using c35))
    (try (have c35b3 : ¬ (a0_0 = a1_0) := by simpa using c35))
    clear c35
    replace H := bE H
    obtain ⟨⟨t414, t415⟩, A490, H⟩ := H
    replace H : (if t415 = true then ((rational_reduced.f kj2 a0_0 t414 x7_2).bind fun bt416 => (some (bt416.1, bt416.2.1, bt416.2.2))) else ((natural_Subtract.f kj2 x6_2 x5_2).bind fun bt419 => ((rational_reduced.f kj2 a1_0 bt419.1 x7_2).bind fun bt421 => (some (bt421.1, bt421.2.1, bt421.2.2))))) = some (r1, r2, r3) := H
    have A49 := Aside0.mk A490
    clear A490
    by_cases c50 : t415 = true
    ·subst c50
     have H1 : ((rational_reduced.f kj2 a0_0 t414 x7_2).bind fun bt416 => (some (bt416.1, bt416.2.1, bt416.2.2))) = some (r1, r2, r3) := by rw [if_pos rfl] at H; exact H
     clear H
     have H := H1
     clear H1
     replace H := bE H
     obtain ⟨⟨t416, t417, t418⟩, A510, H⟩ := H
     replace H : (some (t416, t417, t418)) = some (r1, r2, r3) := H
     have A51 := Aside0.mk A510
     clear A510
     simp only [Option.some.injEq, Prod.mk.injEq] at H
     obtain ⟨rfl, rfl, rfl⟩ := H
     have hnb52 := NB399_400.out
     have hnc52 := NB400_399.out
     have hnb53 := NB399_401.out
     have hnc53 := NB401_399.out
     obtain ⟨hcz54_0, hcz54_1, hcz54_2, hfz54_0, hfz54_1, hfz54_2⟩ := cz3 BK399.out
     have hnb55 := NB400_401.out
     have hnc55 := NB401_400.out
     obtain ⟨hcz56_0, hcz56_1, hcz56_2, hfz56_0, hfz56_1, hfz56_2⟩ := cz3 BK400.out
     go_wp2_with (first | ((with_reducible refine gate_callee (f := 57) rfl ?_); refine goesLq (some 51) rfl rfl Tryd.func57 #[.string x5_2, .string x6_2] rfl ?_; (with_reducible refine (natural_Subtract.calls kj2 x5_2 x6_2 t414 true _ A49.out).mono ?_); rintro e w57 ⟨rfl, hb⟩; refine ⟨_, rfl, ?_⟩; have n0_ := aM (blk_below (kU BK399.out) hb); have n1_ := aM (blk_below (kU BK400.out) hb); have n2_ := aM (blk_below (kU BK401.out) hb); have n3_ := aM (below_step (bU HB.out) hb); clear BK399; clear BK400; clear BK401; clear HB; have BK399 := n0_; have BK400 := n1_; have BK401 := n2_; have HB := n3_; clear n0_ n1_ n2_ n3_; (try clear hb); (try clear hb2); (try clear hk); (try clear hi); obtain ⟨hcz58_0, hcz58_1, hcz58_2, hfz58_0, hfz58_1, hfz58_2⟩ := cz3 BK399.out) | ((with_reducible refine gate_callee (f := 39) rfl ?_); refine goesLq (some 59) rfl rfl Tryd.func39 #[.bool a0_0, .string t414, .string x7_2] rfl ?_; (with_reducible refine (rational_reduced.calls kj2 a0_0 t414 x7_2 t416 t417 t418 _ A51.out).mono ?_); rintro e w59 ⟨rfl, hb⟩; refine ⟨_, rfl, ?_⟩; have n0_ := aM (blk_below (kU BK399.out) hb); have n1_ := aM (blk_below (kU BK400.out) hb); have n2_ := aM (blk_below (kU BK401.out) hb); have n3_ := aM (below_step (bU HB.out) hb); clear BK399; clear BK400; clear BK401; clear HB; have BK399 := n0_; have BK400 := n1_; have BK401 := n2_; have HB := n3_; clear n0_ n1_ n2_ n3_; (try clear hb); (try clear hb2); (try clear hk); (try clear hi); obtain ⟨hcz60_0, hcz60_1, hcz60_2, hfz60_0, hfz60_1, hfz60_2⟩ := cz3 BK401.out))
     refine bodyPost_ret (results_cell_row rfl _ _ gb401 33 #[.bool t416, .string t417, .string t418] (0, 0) _ rfl (kP BK401.out) Tryd.underlying33 rfl (by kernel_rfl)) rfl ?_
     exact ⟨by first | rfl | (simp [errW_none, errW_some] <;> rfl) | (simp [*, errW_none, errW_some] <;> rfl), bU HB.out⟩
    ·replace c50 := Bool.eq_false_iff.mpr c50
     subst c50
     have H1 : ((natural_Subtract.f kj2 x6_2 x5_2).bind fun bt419 => ((rational_reduced.f kj2 a1_0 bt419.1 x7_2).bind fun bt421 => (some (bt421.1, bt421.2.1, bt421.2.2)))) = some (r1, r2, r3) := by rw [if_neg (show ¬ (false = true) by decide)] at H; exact H
     clear H
     have H := H1
     clear H1
     replace H := bE H
     obtain ⟨⟨t419, t420⟩, A610, H⟩ := H
     replace H : ((rational_reduced.f kj2 a1_0 t419 x7_2).bind fun bt421 => (some (bt421.1, bt421.2.1, bt421.2.2))) = some (r1, r2, r3) := H
     have A61 := Aside0.mk A610
     clear A610
     replace H := bE H
     obtain ⟨⟨t421, t422, t423⟩, A620, H⟩ := H
     replace H : (some (t421, t422, t423)) = some (r1, r2, r3) := H
     have A62 := Aside0.mk A620
     clear A620
     simp only [Option.some.injEq, Prod.mk.injEq] at H
     obtain ⟨rfl, rfl, rfl⟩ := H
     have hnb63 := NB399_400.out
     have hnc63 := NB400_399.out
     have hnb64 := NB399_401.out
     have hnc64 := NB401_399.out
     obtain ⟨hcz65_0, hcz65_1, hcz65_2, hfz65_0, hfz65_1, hfz65_2⟩ := cz3 BK399.out
     have hnb66 := NB400_401.out
     have hnc66 := NB401_400.out
     obtain ⟨hcz67_0, hcz67_1, hcz67_2, hfz67_0, hfz67_1, hfz67_2⟩ := cz3 BK400.out
     go_wp2_with (first | ((with_reducible refine gate_callee (f := 57) rfl ?_); refine goesLq (some 51) rfl rfl Tryd.func57 #[.string x5_2, .string x6_2] rfl ?_; (with_reducible refine (natural_Subtract.calls kj2 x5_2 x6_2 t414 false _ A49.out).mono ?_); rintro e w68 ⟨rfl, hb⟩; refine ⟨_, rfl, ?_⟩; have n0_ := aM (blk_below (kU BK399.out) hb); have n1_ := aM (blk_below (kU BK400.out) hb); have n2_ := aM (blk_below (kU BK401.out) hb); have n3_ := aM (below_step (bU HB.out) hb); clear BK399; clear BK400; clear BK401; clear HB; have BK399 := n0_; have BK400 := n1_; have BK401 := n2_; have HB := n3_; clear n0_ n1_ n2_ n3_; (try clear hb); (try clear hb2); (try clear hk); (try clear hi)) | ((with_reducible refine gate_callee (f := 57) rfl ?_); refine goesLq (some 63) rfl rfl Tryd.func57 #[.string x6_2, .string x5_2] rfl ?_; (with_reducible refine (natural_Subtract.calls kj2 x6_2 x5_2 t419 t420 _ A61.out).mono ?_); rintro e w69 ⟨rfl, hb⟩; refine ⟨_, rfl, ?_⟩; have n0_ := aM (blk_below (kU BK399.out) hb); have n1_ := aM (blk_below (kU BK400.out) hb); have n2_ := aM (blk_below (kU BK401.out) hb); have n3_ := aM (below_step (bU HB.out) hb); clear BK399; clear BK400; clear BK401; clear HB; have BK399 := n0_; have BK400 := n1_; have BK401 := n2_; have HB := n3_; clear n0_ n1_ n2_ n3_; (try clear hb); (try clear hb2); (try clear hk); (try clear hi); obtain ⟨hcz70_0, hcz70_1, hcz70_2, hfz70_0, hfz70_1, hfz70_2⟩ := cz3 BK400.out) | ((with_reducible refine gate_callee (f := 39) rfl ?_); refine goesLq (some 70) rfl rfl Tryd.func39 #[.bool a1_0, .string t419, .string x7_2] rfl ?_; (with_reducible refine (rational_reduced.calls kj2 a1_0 t419 x7_2 t421 t422 t423 _ A62.out).mono ?_); rintro e w71 ⟨rfl, hb⟩; refine ⟨_, rfl, ?_⟩; have n0_ := aM (blk_below (kU BK399.out) hb); have n1_ := aM (blk_below (kU BK400.out) hb); have n2_ := aM (blk_below (kU BK401.out) hb); have n3_ := aM (below_step (bU HB.out) hb); clear BK399; clear BK400; clear BK401; clear HB; have BK399 := n0_; have BK400 := n1_; have BK401 := n2_; have HB := n3_; clear n0_ n1_ n2_ n3_; (try clear hb); (try clear hb2); (try clear hk); (try clear hi); obtain ⟨hcz72_0, hcz72_1, hcz72_2, hfz72_0, hfz72_1, hfz72_2⟩ := cz3 BK401.out))
     refine bodyPost_ret (results_cell_row rfl _ _ gb401 33 #[.bool t421, .string t422, .string t423] (0, 0) _ rfl (kP BK401.out) Tryd.underlying33 rfl (by kernel_rfl)) rfl ?_
     exact ⟨by first | rfl | (simp [errW_none, errW_some] <;> rfl) | (simp [*, errW_none, errW_some] <;> rfl), bU HB.out⟩

end Go.Proofs.YtjeamaahhpbbkaaDoor.PAll
