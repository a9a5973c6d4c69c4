-- PRINTED by a session's own changed print
import Derived.Test.YtjeamaahhpbbkaaDoorPAllx0
import Derived.Test.YtjeamaahhpbbkaaDoorPAllx5
import Derived.Test.YtjeamaahhpbbkaaDoorPAllx6
import Derived.Test.YtjeamaahhpbbkaaDoorPAllx9
import Derived.Test.YtjeamaahhpbbkaaDoorPAllx10
namespace Go.Proofs.YtjeamaahhpbbkaaDoor.PAll
open Go.RowKit Go.Proofs.YtjeamaahhpbbkaaDoorW.PrintWords Go.Proofs.YtjeamaahhpbbkaaDoorW.PrintLast
set_option linter.unusedVariables false
set_option linter.unusedSimpArgs false

/-! ### rational_Add: function 23 -/
def rational_Add.f (k : Nat) (a0_0 : Bool) (a0_1 : ByteArray) (a0_2 : ByteArray) (a1_0 : Bool) (a1_1 : ByteArray) (a1_2 : ByteArray) : Option (Bool × ByteArray × ByteArray) := (rational_clean.f k a0_0 a0_1 a0_2).bind fun bt427 => ((rational_clean.f k a1_0 a1_1 a1_2).bind fun bt430 => ((rational_add.f k bt427.1 bt427.2.1 bt427.2.2 bt430.1 bt430.2.1 bt430.2.2).bind fun bt433 => (some (bt433.1, bt433.2.1, bt433.2.2))))
theorem rational_Add.mono : ∀ a0 a1 a2 a3 a4 a5 k, LeO (rational_Add.f k a0 a1 a2 a3 a4 a5) (rational_Add.f (k + 1) a0 a1 a2 a3 a4 a5) := by
 intro a0 a1 a2 a3 a4 a5 k
 unfold rational_Add.f
 repeat' first
   | (with_reducible exact rational_add.mono _ _ _ _ _ _ _)
   | (with_reducible exact rational_clean.mono _ _ _ _)
   | (with_reducible exact LeO.refl _)
   | (with_reducible exact LeO.none _)
   | (with_reducible refine LeO.ite ?_ ?_)
   | (with_reducible refine LeO.bind ?_ (fun _ => ?_))
   | exact LeO.none _
   | refine LeO.ite ?_ ?_
   | refine LeO.bind ?_ (fun _ => ?_)
set_option maxHeartbeats 8000000 in
set_option maxRecDepth 100000 in
theorem rational_Add.calls (k : Nat) (a0_0 : Bool) (a0_1 : ByteArray) (a0_2 : ByteArray) (a1_0 : Bool) (a1_1 : ByteArray) (a1_2 : ByteArray) (r1 : Bool) (r2 : ByteArray) (r3 : ByteArray) (w : World) (h : rational_Add.f k a0_0 a0_1 a0_2 a1_0 a1_1 a1_2 = some (r1, r2, r3)) :
  Calls Tryd.prog 23 #[.agg #[.bool a0_0, .string a0_1, .string a0_2], .agg #[.bool a1_0, .string a1_1, .string a1_2]] w fun e w' => e = .returned (.agg #[.bool r1, .string r2, .string r3]) ∧ Below w.heap.size w w' := by
 have hu33 := Tryd.underlying33
 have HB := aM (Below.refl w.heap.size w)
 have H : ((rational_clean.f k a0_0 a0_1 a0_2).bind fun bt427 => ((rational_clean.f k a1_0 a1_1 a1_2).bind fun bt430 => ((rational_add.f k bt427.1 bt427.2.1 bt427.2.2 bt430.1 bt430.2.1 bt430.2.2).bind fun bt433 => (some (bt433.1, bt433.2.1, bt433.2.2))))) = some (r1, r2, r3) := h
 clear h
 replace H := bE H
 obtain ⟨⟨t427, t428, t429⟩, A30, H⟩ := H
 replace H : ((rational_clean.f k a1_0 a1_1 a1_2).bind fun bt430 => ((rational_add.f k t427 t428 t429 bt430.1 bt430.2.1 bt430.2.2).bind fun bt433 => (some (bt433.1, bt433.2.1, bt433.2.2)))) = some (r1, r2, r3) := H
 have A3 := Aside0.mk A30
 clear A30
 replace H := bE H
 obtain ⟨⟨t430, t431, t432⟩, A40, H⟩ := H
 replace H : ((rational_add.f k t427 t428 t429 t430 t431 t432).bind fun bt433 => (some (bt433.1, bt433.2.1, bt433.2.2))) = some (r1, r2, r3) := H
 have A4 := Aside0.mk A40
 clear A40
 replace H := bE H
 obtain ⟨⟨t433, t434, t435⟩, A50, H⟩ := H
 replace H : (some (t433, t434, t435)) = some (r1, r2, r3) := H
 have A5 := Aside0.mk A50
 clear A50
 simp only [Option.some.injEq, Prod.mk.injEq] at H
 obtain ⟨rfl, rfl, rfl⟩ := H
 go_enter Tryd.func23, Tryd.ntmps23
 try go_wp2_with (first | ((with_reducible refine gate_dst (N := 2) rfl ?_); refine box_event ?hg (N := 2) ?hd (cs := #[.bool a0_0, .string a0_1, .string a0_2]) (t := 33) ?hr ?_; (case hd => rfl); (case hg => rfl); (case hr => first | (go_simp; done) | (go_simp; rfl)); intro gb424 hg w6 hbox hb; have n0_ := aM (below_step (bU HB.out) hb); have n1_ := aM (hbox); have n2_ := aM ((by rw [hg]; exact (below_size (bU HB.out)) : w.heap.size ≤ gb424)); have n3_ := aM ((by rw [hg]; exact (below_size (bU HB.out)) : w.heap.size ≤ gb424)); clear HB; have HB := n0_; have BK424 := n1_; have GW424 := n2_; have GE424 := n3_; clear n0_ n1_ n2_ n3_; clear hb hbox hg) | ((with_reducible refine gate_dst (N := 3) rfl ?_); refine box_event ?hg (N := 3) ?hd (cs := #[.bool a1_0, .string a1_1, .string a1_2]) (t := 33) ?hr ?_; (case hd => rfl); (case hg => rfl); (case hr => first | (go_simp; done) | (go_simp; rfl)); intro gb425 hg w7 hbox hb; have n0_ := aM (blk_below (kU BK424.out) hb); have n1_ := aM (below_step (bU HB.out) hb); have n2_ := aM (hbox); have n3_ := aM ((by rw [hg]; exact (below_size (bU HB.out)) : w.heap.size ≤ gb425)); have n4_ := aM ((by rw [hg]; exact (below_size (bU HB.out)) : w.heap.size ≤ gb425)); have n5_ := aM ((by rw [hg]; exact Nat.ne_of_lt (blk_lt (kU BK424.out)) : gb424 ≠ gb425)); have n6_ := aM ((by rw [hg]; exact Nat.ne_of_gt (blk_lt (kU BK424.out)) : gb425 ≠ gb424)); clear BK424; clear HB; have BK424 := n0_; have HB := n1_; have BK425 := n2_; have GW425 := n3_; have GE425 := n4_; have NB424_425 := n5_; have NB425_424 := n6_; clear n0_ n1_ n2_ n3_ n4_ n5_ n6_; clear hb hbox hg) | ((with_reducible refine gate_dst (N := 4) rfl ?_); refine box_event ?hg (N := 4) ?hd (cs := #[.bool false, .string (⟨#[]⟩ : ByteArray), .string (⟨#[]⟩ : ByteArray)]) (t := 33) ?hr ?_; (case hd => rfl); (case hg => rfl); (case hr => first | (go_simp; done) | (go_simp; rfl)); intro gb426 hg w8 hbox hb; have n0_ := aM (blk_below (kU BK424.out) hb); have n1_ := aM (blk_below (kU BK425.out) hb); have n2_ := aM (below_step (bU HB.out) hb); have n3_ := aM (hbox); have n4_ := aM ((by rw [hg]; exact (below_size (bU HB.out)) : w.heap.size ≤ gb426)); have n5_ := aM ((by rw [hg]; exact (below_size (bU HB.out)) : w.heap.size ≤ gb426)); have n6_ := aM ((by rw [hg]; exact Nat.ne_of_lt (blk_lt (kU BK424.out)) : gb424 ≠ gb426)); have n7_ := aM ((by rw [hg]; exact Nat.ne_of_gt (blk_lt (kU BK424.out)) : gb426 ≠ gb424)); have n8_ := aM ((by rw [hg]; exact Nat.ne_of_lt (blk_lt (kU BK425.out)) : gb425 ≠ gb426)); have n9_ := aM ((by rw [hg]; exact Nat.ne_of_gt (blk_lt (kU BK425.out)) : gb426 ≠ gb425)); clear BK424; clear BK425; clear HB; have BK424 := n0_; have BK425 := n1_; have HB := n2_; have BK426 := n3_; have GW426 := n4_; have GE426 := n5_; have NB424_426 := n6_; have NB426_424 := n7_; have NB425_426 := n8_; have NB426_425 := n9_; clear n0_ n1_ n2_ n3_ n4_ n5_ n6_ n7_ n8_ n9_; clear hb hbox hg))
 have n0_ := aM (blk_drew BK424.out)
 have n1_ := aM (blk_drew BK425.out)
 have n2_ := aM (blk_drew BK426.out)
 have n3_ := aM (below_drew1 HB.out)
 clear BK424
 clear BK425
 clear BK426
 clear HB
 have BK424 := n0_
 have BK425 := n1_
 have BK426 := n2_
 have HB := n3_
 clear n0_ n1_ n2_ n3_
 refine start_ (n := 6) (S := fun w' => w'.cell? ⟨gb424, 0, none⟩ = some (.bool a0_0) ∧ w'.cell? ⟨gb424, 1, none⟩ = some (.string a0_1) ∧ w'.cell? ⟨gb424, 2, none⟩ = some (.string a0_2) ∧ w'.cell? ⟨gb425, 0, none⟩ = some (.bool a1_0) ∧ w'.cell? ⟨gb425, 1, none⟩ = some (.string a1_1) ∧ w'.cell? ⟨gb425, 2, none⟩ = some (.string a1_2)) (ds := []) #[false, false, false, false, false, false] (by kernel_rfl) rfl rfl ⟨(blk_cell BK424.out 0).trans rfl, (blk_cell BK424.out 1).trans rfl, (blk_cell BK424.out 2).trans rfl, (blk_cell BK425.out 0).trans rfl, (blk_cell BK425.out 1).trans rfl, (blk_cell BK425.out 2).trans rfl⟩ (fun hHeld => ?_)
 generalize w8.drew = w9 at BK424 BK425 BK426 HB hHeld ⊢
 refine take_ (i := 0) (N := some 5) (v := ?_) (a' := ?_) #[true, false, false, false, false, false] rfl rfl (by kernel_rfl) (fun _ _ _ h => h) (Or.inl ⟨by rfl, ?_⟩) hHeld ?_ ?_
 rotate_left
 ·rintro w' ⟨s0, s1, s2, s3, s4, s5⟩
  go_simp
  with_reducible rfl
 rotate_left
 ·simp only [Act.put, sTA, sC0, sCS, i64_w, i32_w]
  rfl
 refine take_ (i := 2) (N := some 7) (v := ?_) (a' := ?_) #[true, false, true, false, false, false] rfl rfl (by kernel_rfl) (fun _ _ _ h => h) (Or.inl ⟨by rfl, ?_⟩) hHeld ?_ ?_
 rotate_left
 ·rintro w' ⟨s0, s1, s2, s3, s4, s5⟩
  go_simp
  with_reducible rfl
 rotate_left
 ·simp only [Act.put, sTA, sC0, sCS, i64_w, i32_w]
  rfl
 refine one_ (i := 1) (N := some 6) #[true, true, true, false, false, false] rfl rfl (by kernel_rfl) (by decide) (fun K hK => ?_)
 refine goesq Tryd.func32 #[.agg #[.bool a0_0, .string a0_1, .string a0_2]] (by rfl) rfl rfl ?_
 with_reducible refine (rational_clean.calls k a0_0 a0_1 a0_2 t427 t428 t429 _ A3.out).mono ?_
 rintro e w10 ⟨rfl, hb⟩
 refine ⟨_, rfl, ?_⟩
 have n0_ := aM (blk_below (kU BK424.out) hb)
 have n1_ := aM (blk_below (kU BK425.out) hb)
 have n2_ := aM (blk_below (kU BK426.out) hb)
 have n3_ := aM (below_step (bU HB.out) hb)
 clear BK424
 clear BK425
 clear BK426
 clear HB
 have BK424 := n0_
 have BK425 := n1_
 have BK426 := n2_
 have HB := n3_
 clear n0_ n1_ n2_ n3_
 (try clear hb)
 (try clear hb2)
 (try clear hk)
 (try clear hi)
 refine hK.out _ _ ⟨(blk_cell BK424.out 0).trans rfl, (blk_cell BK424.out 1).trans rfl, (blk_cell BK424.out 2).trans rfl, (blk_cell BK425.out 0).trans rfl, (blk_cell BK425.out 1).trans rfl, (blk_cell BK425.out 2).trans rfl⟩ (fun hHeld => ?_)
 clear hK K
 refine norm_ (a' := ?_) ?_ ?_
 rotate_left
 ·show Act.put _ (some 6) _ = _
  simp only [Act.put, sTA, sC0, sCS, i64_w, i32_w]
  rfl
 refine one_ (i := 3) (N := some 8) #[true, true, true, true, false, false] rfl rfl (by kernel_rfl) (by decide) (fun K hK => ?_)
 refine goesq Tryd.func32 #[.agg #[.bool a1_0, .string a1_1, .string a1_2]] (by rfl) rfl rfl ?_
 with_reducible refine (rational_clean.calls k a1_0 a1_1 a1_2 t430 t431 t432 _ A4.out).mono ?_
 rintro e w11 ⟨rfl, hb⟩
 refine ⟨_, rfl, ?_⟩
 have n0_ := aM (blk_below (kU BK424.out) hb)
 have n1_ := aM (blk_below (kU BK425.out) hb)
 have n2_ := aM (blk_below (kU BK426.out) hb)
 have n3_ := aM (below_step (bU HB.out) hb)
 clear BK424
 clear BK425
 clear BK426
 clear HB
 have BK424 := n0_
 have BK425 := n1_
 have BK426 := n2_
 have HB := n3_
 clear n0_ n1_ n2_ n3_
 (try clear hb)
 (try clear hb2)
 (try clear hk)
 (try clear hi)
 refine hK.out _ _ ⟨(blk_cell BK424.out 0).trans rfl, (blk_cell BK424.out 1).trans rfl, (blk_cell BK424.out 2).trans rfl, (blk_cell BK425.out 0).trans rfl, (blk_cell BK425.out 1).trans rfl, (blk_cell BK425.out 2).trans rfl⟩ (fun hHeld => ?_)
 clear hK K
 refine norm_ (a' := ?_) ?_ ?_
 rotate_left
 ·show Act.put _ (some 8) _ = _
  simp only [Act.put, sTA, sC0, sCS, i64_w, i32_w]
  rfl
 refine one_ (i := 4) (N := some 9) #[true, true, true, true, true, false] rfl rfl (by kernel_rfl) (by decide) (fun K hK => ?_)
 refine goesq Tryd.func38 #[.agg #[.bool t427, .string t428, .string t429], .agg #[.bool t430, .string t431, .string t432]] (by rfl) rfl rfl ?_
 with_reducible refine (rational_add.calls k t427 t428 t429 t430 t431 t432 t433 t434 t435 _ A5.out).mono ?_
 rintro e w12 ⟨rfl, hb⟩
 refine ⟨_, rfl, ?_⟩
 have n0_ := aM (blk_below (kU BK424.out) hb)
 have n1_ := aM (blk_below (kU BK425.out) hb)
 have n2_ := aM (blk_below (kU BK426.out) hb)
 have n3_ := aM (below_step (bU HB.out) hb)
 clear BK424
 clear BK425
 clear BK426
 clear HB
 have BK424 := n0_
 have BK425 := n1_
 have BK426 := n2_
 have HB := n3_
 clear n0_ n1_ n2_ n3_
 (try clear hb)
 (try clear hb2)
 (try clear hk)
 (try clear hi)
 refine hK.out _ _ ⟨(blk_cell BK424.out 0).trans rfl, (blk_cell BK424.out 1).trans rfl, (blk_cell BK424.out 2).trans rfl, (blk_cell BK425.out 0).trans rfl, (blk_cell BK425.out 1).trans rfl, (blk_cell BK425.out 2).trans rfl⟩ (fun hHeld => ?_)
 clear hK K
 refine norm_ (a' := ?_) ?_ ?_
 rotate_left
 ·show Act.put _ (some 9) _ = _
  simp only [Act.put, sTA, sC0, sCS, i64_w, i32_w]
  rfl
 refine one_ (i := 5) (N := none) #[true, true, true, true, true, true] rfl rfl (by kernel_rfl) (by decide) (fun K hK => ?_)
 have hs13 : w12.cell? ⟨gb426, 0, none⟩ = some (.bool false) := (blk_cell BK426.out 0).trans rfl
 have hfs13 := blk_frozen BK426.out 0
 have hns13_0 := NB424_426.out
 have hns13_1 := NB425_426.out
 have hms13_0 := NB426_424.out
 have hms13_1 := NB426_425.out
 have hs14 : w12.cell? ⟨gb426, 1, none⟩ = some (.string (⟨#[]⟩ : ByteArray)) := (blk_cell BK426.out 1).trans rfl
 have hfs14 := blk_frozen BK426.out 1
 have hns14_0 := NB424_426.out
 have hns14_1 := NB425_426.out
 have hms14_0 := NB426_424.out
 have hms14_1 := NB426_425.out
 have hs15 : w12.cell? ⟨gb426, 2, none⟩ = some (.string (⟨#[]⟩ : ByteArray)) := (blk_cell BK426.out 2).trans rfl
 have hfs15 := blk_frozen BK426.out 2
 have hns15_0 := NB424_426.out
 have hns15_1 := NB425_426.out
 have hms15_0 := NB426_424.out
 have hms15_1 := NB426_425.out
 refine skip_ (w1 := ?_) (by rfl) rfl ?_ ?_
 rotate_left
 ·go_simp
  rfl
 refine hK.out _ _ ⟨((cell_far (p := ⟨gb426, _, none⟩) NB424_426.out _).trans (((cell_far (p := ⟨gb426, _, none⟩) NB424_426.out _).trans (((cell_far (p := ⟨gb426, _, none⟩) NB424_426.out _).trans (hHeld.1)))))), ((cell_far (p := ⟨gb426, _, none⟩) NB424_426.out _).trans (((cell_far (p := ⟨gb426, _, none⟩) NB424_426.out _).trans (((cell_far (p := ⟨gb426, _, none⟩) NB424_426.out _).trans (hHeld.2.1)))))), ((cell_far (p := ⟨gb426, _, none⟩) NB424_426.out _).trans (((cell_far (p := ⟨gb426, _, none⟩) NB424_426.out _).trans (((cell_far (p := ⟨gb426, _, none⟩) NB424_426.out _).trans (hHeld.2.2.1)))))), ((cell_far (p := ⟨gb426, _, none⟩) NB425_426.out _).trans (((cell_far (p := ⟨gb426, _, none⟩) NB425_426.out _).trans (((cell_far (p := ⟨gb426, _, none⟩) NB425_426.out _).trans (hHeld.2.2.2.1)))))), ((cell_far (p := ⟨gb426, _, none⟩) NB425_426.out _).trans (((cell_far (p := ⟨gb426, _, none⟩) NB425_426.out _).trans (((cell_far (p := ⟨gb426, _, none⟩) NB425_426.out _).trans (hHeld.2.2.2.2.1)))))), ((cell_far (p := ⟨gb426, _, none⟩) NB425_426.out _).trans (((cell_far (p := ⟨gb426, _, none⟩) NB425_426.out _).trans (((cell_far (p := ⟨gb426, _, none⟩) NB425_426.out _).trans (hHeld.2.2.2.2.2))))))⟩ (fun hHeld => ?_)
 clear hK K
 refine done_ (by kernel_rfl) ?_
 try go_wp2
 refine bodyPost_ret (results_cell_row rfl _ _ gb426 33 #[.bool t433, .string t434, .string t435] (0, 0) _ rfl (kP BK426.out) Tryd.underlying33 rfl (by kernel_rfl)) rfl ?_
 exact ⟨by first | rfl | (simp [errW_none, errW_some] <;> rfl) | (simp [*, errW_none, errW_some] <;> rfl), bU HB.out⟩

/-! ### natural_FromUint: function 60 -/
def natural_FromUint.f (k : Nat) (a0 : Int) : Option (ByteArray) := (natural_limbs_text.f k (([(a0) % 4294967296, (a0 / 4294967296) % 4294967296] : List Int))).bind fun t439 => (some t439)
theorem natural_FromUint.mono : ∀ a0 k, LeO (natural_FromUint.f k a0) (natural_FromUint.f (k + 1) a0) := by
 intro a0 k
 unfold natural_FromUint.f
 repeat' first
   | (with_reducible exact natural_limbs_text.mono _ _)
   | (with_reducible exact LeO.refl _)
   | (with_reducible exact LeO.none _)
   | (with_reducible refine LeO.ite ?_ ?_)
   | (with_reducible refine LeO.bind ?_ (fun _ => ?_))
   | exact LeO.none _
   | refine LeO.ite ?_ ?_
   | refine LeO.bind ?_ (fun _ => ?_)
set_option maxHeartbeats 8000000 in
set_option maxRecDepth 100000 in
theorem natural_FromUint.calls (k : Nat) (a0 : Int) (r : ByteArray) (w : World) (h : natural_FromUint.f k a0 = some r) :
  Calls Tryd.prog 60 #[.int .u64 a0] w fun e w' => e = .returned (.string r) ∧ Below w.heap.size w w' := by
 have HB := aM (Below.refl w.heap.size w)
 have H : ((natural_limbs_text.f k (([(a0) % 4294967296, (a0 / 4294967296) % 4294967296] : List Int))).bind fun t439 => (some t439)) = some r := h
 clear h
 obtain ⟨y436, hy436⟩ : ∃ y_ : List Int, y_ = (([(a0) % 4294967296, (a0 / 4294967296) % 4294967296] : List Int)) := ⟨_, rfl⟩
 replace H : ((natural_limbs_text.f k y436).bind fun t439 => (some t439)) = some r := by first | (rw [hy436]; with_reducible exact H) | (have H2_ := (Option.bind_some _ _).symm.trans H; rw [hy436]; with_reducible exact H2_) | (have H2_ := (Option.bind_some _ _).symm.trans H; with_reducible exact H2_) | with_reducible exact H | (rw [hy436]; exact H) | exact H
 have Ny436 := Aside0.mk hy436
 clear hy436
 replace H := bE H
 obtain ⟨t439, A20, H⟩ := H
 replace H : (some t439) = some r := H
 have A2 := Aside0.mk A20
 clear A20
 obtain rfl := Option.some.inj H
 go_enter Tryd.func60, Tryd.ntmps60
 go_wp2_with (first | ((with_reducible refine gate_dst (N := 8) rfl ?_); refine Kd.R_lit (Kd.int .u32) _ 86 ?hg (N := 8) ?hd (xs := ([(a0) % 4294967296, (a0 / 4294967296) % 4294967296] : List Int)) (inner := [.int .u32 ((a0) % 4294967296), .int .u32 ((a0 / 4294967296) % 4294967296)]) (ok := fun _ => True) (okp := fun _ => True) ?hr ?hp (fun _ hk => hk) trivial (Below.refl _ _) (Nat.le_refl _) (by simp) ?_; (case hd => rfl); (case hg => rfl); (case hr => first | (go_simp; done) | (go_simp; rfl)); (case hp => exact (Reps.one (show Kd.M (Kd.int .u32) _ _ _ ((a0) % 4294967296) [.int .u32 ((a0) % 4294967296)] from rfl) (Reps.one (show Kd.M (Kd.int .u32) _ _ _ ((a0 / 4294967296) % 4294967296) [.int .u32 ((a0 / 4294967296) % 4294967296)] from rfl) (Reps.none _ _)))); intro v437 w3 ho4 hb hg_ hnew_; clear hg_ hnew_; (first | rw [← Ny436.out] at ho4 | (simp only [Int.reduceToNat] at ho4; rw [← Ny436.out] at ho4)); have n0_ := aM (Kd.R_lower ho4 (below_size (bU HB.out))); have n1_ := aM (below_step (bU HB.out) hb); clear HB; have HO438 := n0_; have HB := n1_; clear n0_ n1_; clear hb ho4; obtain ⟨Ao5, co5, eo5⟩ := Kd.R_slice HO438.out; subst eo5) | ((with_reducible refine gate_callee (f := 55) rfl ?_); refine goesLq (some 9) rfl rfl Tryd.func55 #[.slice Ao5 y436.length co5] rfl ?_; (with_reducible refine (natural_limbs_text.calls k _ _ y436 t439 _ ?side1 ?side2 A2.out).mono ?_); (case side1 => exact Kd.C_up (Kd.R_reads' HO438.out).2.2); (case side2 => exact (Kd.R_reads' HO438.out).2.1); rintro e w6 ⟨rfl, hb⟩; refine ⟨_, rfl, ?_⟩; have n0_ := aM (Kd.R_below (Kd.R_up HO438.out) hb); have n1_ := aM (below_step (bU HB.out) hb); clear HO438; clear HB; have HO438 := n0_; have HB := n1_; clear n0_ n1_; (try clear hb); (try clear hb2); (try clear hk); (try clear hi)))
 go_ret
 exact ⟨by first | rfl | (simp [errW_none, errW_some] <;> rfl) | (simp [*, errW_none, errW_some] <;> rfl), bU HB.out⟩

/-! ### rational_magnitude: function 40 -/
def rational_magnitude.f (k : Nat) (a0 : Int) : Option (ByteArray) := if a0 < 0 then ((natural_FromUint.f k (IntKind.u64.wrap (-(IntKind.u64.wrap (a0))))).bind fun t440 => (some t440)) else ((natural_FromUint.f k (IntKind.u64.wrap (a0))).bind fun t441 => (some t441))
theorem rational_magnitude.mono : ∀ a0 k, LeO (rational_magnitude.f k a0) (rational_magnitude.f (k + 1) a0) := by
 intro a0 k
 unfold rational_magnitude.f
 repeat' first
   | (with_reducible exact natural_FromUint.mono _ _)
   | (with_reducible exact LeO.refl _)
   | (with_reducible exact LeO.none _)
   | (with_reducible refine LeO.ite ?_ ?_)
   | (with_reducible refine LeO.bind ?_ (fun _ => ?_))
   | exact LeO.none _
   | refine LeO.ite ?_ ?_
   | refine LeO.bind ?_ (fun _ => ?_)
set_option maxHeartbeats 8000000 in
set_option maxRecDepth 100000 in
theorem rational_magnitude.calls (k : Nat) (a0 : Int) (r : ByteArray) (w : World) (h : rational_magnitude.f k a0 = some r) :
  Calls Tryd.prog 40 #[.int .i64 a0] w fun e w' => e = .returned (.string r) ∧ Below w.heap.size w w' := by
 have HB := aM (Below.refl w.heap.size w)
 have H : (if a0 < 0 then ((natural_FromUint.f k (IntKind.u64.wrap (-(IntKind.u64.wrap (a0))))).bind fun t440 => (some t440)) else ((natural_FromUint.f k (IntKind.u64.wrap (a0))).bind fun t441 => (some t441))) = some r := h
 clear h
 by_cases c2 : a0 < 0
 ·rw [if_pos c2] at H
  have c2b0 := decide_eq_true c2
  clear c2
  replace H := bE H
  obtain ⟨t440, A30, H⟩ := H
  replace H : (some t440) = some r := H
  have A3 := Aside0.mk A30
  clear A30
  obtain rfl := Option.some.inj H
  go_enter Tryd.func40, Tryd.ntmps40
  go_wp2_with (first | ((with_reducible refine gate_callee (f := 60) rfl ?_); refine goesLq (some 8) rfl rfl Tryd.func60 #[.int .u64 (IntKind.u64.wrap (-(IntKind.u64.wrap (a0))))] rfl ?_; (with_reducible refine (natural_FromUint.calls k (IntKind.u64.wrap (-(IntKind.u64.wrap (a0)))) t440 _ A3.out).mono ?_); rintro e w4 ⟨rfl, hb⟩; refine ⟨_, rfl, ?_⟩; have n0_ := aM (below_step (bU HB.out) hb); clear HB; have HB := n0_; clear n0_; (try clear hb); (try clear hb2); (try clear hk); (try clear hi)))
  go_ret
  exact ⟨by first | rfl | (simp [errW_none, errW_some] <;> rfl) | (simp [*, errW_none, errW_some] <;> rfl), bU HB.out⟩
 ·rw [if_neg c2] at H
  have c2b0 := decide_eq_false c2
  clear c2
  replace H := bE H
  obtain ⟨t441, A50, H⟩ := H
  replace H : (some t441) = some r := H
  have A5 := Aside0.mk A50
  clear A50
  obtain rfl := Option.some.inj H
  go_enter Tryd.func40, Tryd.ntmps40
  go_wp2_with (first | ((with_reducible refine gate_callee (f := 60) rfl ?_); refine goesLq (some 11) rfl rfl Tryd.func60 #[.int .u64 (IntKind.u64.wrap (a0))] rfl ?_; (with_reducible refine (natural_FromUint.calls k (IntKind.u64.wrap (a0)) t441 _ A5.out).mono ?_); rintro e w6 ⟨rfl, hb⟩; refine ⟨_, rfl, ?_⟩; have n0_ := aM (below_step (bU HB.out) hb); clear HB; have HB := n0_; clear n0_; (try clear hb); (try clear hb2); (try clear hk); (try clear hi)))
  go_ret
  exact ⟨by first | rfl | (simp [errW_none, errW_some] <;> rfl) | (simp [*, errW_none, errW_some] <;> rfl), bU HB.out⟩

/-! ### rational_Int: function 24 -/
def rational_Int.f (k : Nat) (a0 : Int) : Option (Bool × ByteArray × ByteArray) := (rational_magnitude.f k a0).bind fun t443 => ((rational_reduced.f k (decide (a0 < 0)) t443 (⟨#[1]⟩ : ByteArray)).bind fun bt444 => (some (bt444.1, bt444.2.1, bt444.2.2)))
theorem rational_Int.mono : ∀ a0 k, LeO (rational_Int.f k a0) (rational_Int.f (k + 1) a0) := by
 intro a0 k
 unfold rational_Int.f
 repeat' first
   | (with_reducible exact rational_magnitude.mono _ _)
   | (with_reducible exact rational_reduced.mono _ _ _ _)
   | (with_reducible exact LeO.refl _)
   | (with_reducible exact LeO.none _)
   | (with_reducible refine LeO.ite ?_ ?_)
   | (with_reducible refine LeO.bind ?_ (fun _ => ?_))
   | exact LeO.none _
   | refine LeO.ite ?_ ?_
   | refine LeO.bind ?_ (fun _ => ?_)
set_option maxHeartbeats 8000000 in
set_option maxRecDepth 100000 in
theorem rational_Int.calls (k : Nat) (a0 : Int) (r1 : Bool) (r2 : ByteArray) (r3 : ByteArray) (w : World) (h : rational_Int.f k a0 = some (r1, r2, r3)) :
  Calls Tryd.prog 24 #[.int .i64 a0] w fun e w' => e = .returned (.agg #[.bool r1, .string r2, .string r3]) ∧ Below w.heap.size w w' := by
 have hu33 := Tryd.underlying33
 have HB := aM (Below.refl w.heap.size w)
 have H : ((rational_magnitude.f k a0).bind fun t443 => ((rational_reduced.f k (decide (a0 < 0)) t443 (⟨#[1]⟩ : ByteArray)).bind fun bt444 => (some (bt444.1, bt444.2.1, bt444.2.2)))) = some (r1, r2, r3) := h
 clear h
 replace H := bE H
 obtain ⟨t443, A20, H⟩ := H
 replace H : ((rational_reduced.f k (decide (a0 < 0)) t443 (⟨#[1]⟩ : ByteArray)).bind fun bt444 => (some (bt444.1, bt444.2.1, bt444.2.2))) = some (r1, r2, r3) := H
 have A2 := Aside0.mk A20
 clear A20
 replace H := bE H
 obtain ⟨⟨t444, t445, t446⟩, A30, H⟩ := H
 replace H : (some (t444, t445, t446)) = some (r1, r2, r3) := H
 have A3 := Aside0.mk A30
 clear A30
 simp only [Option.some.injEq, Prod.mk.injEq] at H
 obtain ⟨rfl, rfl, rfl⟩ := H
 go_enter Tryd.func24, Tryd.ntmps24
 go_wp2_with (first | ((with_reducible refine gate_dst (N := 2) rfl ?_); refine box_event ?hg (N := 2) ?hd (cs := #[.bool false, .string (⟨#[]⟩ : ByteArray), .string (⟨#[]⟩ : ByteArray)]) (t := 33) ?hr ?_; (case hd => rfl); (case hg => rfl); (case hr => first | (go_simp; done) | (go_simp; rfl)); intro gb442 hg w4 hbox hb; have n0_ := aM (below_step (bU HB.out) hb); have n1_ := aM (hbox); have n2_ := aM ((by rw [hg]; exact (below_size (bU HB.out)) : w.heap.size ≤ gb442)); have n3_ := aM ((by rw [hg]; exact (below_size (bU HB.out)) : w.heap.size ≤ gb442)); clear HB; have HB := n0_; have BK442 := n1_; have GW442 := n2_; have GE442 := n3_; clear n0_ n1_ n2_ n3_; clear hb hbox hg) | ((with_reducible refine gate_callee (f := 40) rfl ?_); refine goesLq (some 6) rfl rfl Tryd.func40 #[.int .i64 a0] rfl ?_; (with_reducible refine (rational_magnitude.calls k a0 t443 _ A2.out).mono ?_); rintro e w5 ⟨rfl, hb⟩; refine ⟨_, rfl, ?_⟩; have n0_ := aM (blk_below (kU BK442.out) hb); have n1_ := aM (below_step (bU HB.out) hb); clear BK442; clear HB; have BK442 := n0_; have HB := n1_; clear n0_ n1_; (try clear hb); (try clear hb2); (try clear hk); (try clear hi)) | ((with_reducible refine gate_callee (f := 39) rfl ?_); refine goesLq (some 7) rfl rfl Tryd.func39 #[.bool (decide (a0 < 0)), .string t443, .string (⟨#[1]⟩ : ByteArray)] rfl ?_; (with_reducible refine (rational_reduced.calls k (decide (a0 < 0)) t443 (⟨#[1]⟩ : ByteArray) t444 t445 t446 _ A3.out).mono ?_); rintro e w6 ⟨rfl, hb⟩; refine ⟨_, rfl, ?_⟩; have n0_ := aM (blk_below (kU BK442.out) hb); have n1_ := aM (below_step (bU HB.out) hb); clear BK442; clear HB; have BK442 := n0_; have HB := n1_; clear n0_ n1_; (try clear hb); (try clear hb2); (try clear hk); (try clear hi); obtain ⟨hcz7_0, hcz7_1, hcz7_2, hfz7_0, hfz7_1, hfz7_2⟩ := cz3 BK442.out))
 refine bodyPost_ret (results_cell_row rfl _ _ gb442 33 #[.bool t444, .string t445, .string t446] (0, 0) _ rfl (kP BK442.out) Tryd.underlying33 rfl (by kernel_rfl)) rfl ?_
 exact ⟨by first | rfl | (simp [errW_none, errW_some] <;> rfl) | (simp [*, errW_none, errW_some] <;> rfl), bU HB.out⟩

end Go.Proofs.YtjeamaahhpbbkaaDoor.PAll
