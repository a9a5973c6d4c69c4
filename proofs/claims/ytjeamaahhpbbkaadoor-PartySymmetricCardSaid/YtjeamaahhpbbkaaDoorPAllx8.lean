-- PRINTED by a session's own changed print
import Derived.Test.YtjeamaahhpbbkaaDoorPAllx0
import Derived.Test.YtjeamaahhpbbkaaDoorPAllx4
import Derived.Test.YtjeamaahhpbbkaaDoorPAllx5
import Derived.Test.YtjeamaahhpbbkaaDoorPAllx6
import Derived.Test.YtjeamaahhpbbkaaDoorPAllx7
namespace Go.Proofs.YtjeamaahhpbbkaaDoor.PAll
open Go.RowKit Go.Proofs.YtjeamaahhpbbkaaDoorW.PrintWords Go.Proofs.YtjeamaahhpbbkaaDoorW.PrintLast
set_option linter.unusedVariables false
set_option linter.unusedSimpArgs false

/-! ### rational_Compare: function 16 -/
mutual
def rational_Compare.j0 : Nat → Bool → ByteArray → ByteArray → Bool → ByteArray → ByteArray → Option (Int)
 | 0, _, _, _, _, _, _ => none
 | k + 1, x309000, x309001, x309002, x310000, x310001, x310002 => (rational_signOf.f x309000 x309001 x309002).bind fun t316 => ((rational_signOf.f x310000 x310001 x310002).bind fun t317 => (rational_Compare.j1 k t316 t317 x309000 x309001 x309002 x310000 x310001 x310002))
def rational_Compare.j1 : Nat → Int → Int → Bool → ByteArray → ByteArray → Bool → ByteArray → ByteArray → Option (Int)
 | 0, _, _, _, _, _, _, _, _ => none
 | k + 1, x5, x6, x309000, x309001, x309002, x310000, x310001, x310002 => if x5 = x6 then ((rational_den.f x310000 x310001 x310002).bind fun t318 => ((natural_Multiply.f k x309001 t318).bind fun t319 => ((rational_den.f x309000 x309001 x309002).bind fun t320 => ((natural_Multiply.f k x310001 t320).bind fun t321 => ((natural_Compare.f k t319 t321).bind fun t322 => (rational_Compare.j2 k t322 x309000 x309001 x309002)))))) else (if x5 < x6 then (some (-1)) else (some 1))
def rational_Compare.j2 : Nat → Int → Bool → ByteArray → ByteArray → Option (Int)
 | 0, _, _, _, _ => none
 | k + 1, x7, x309000, x309001, x309002 => if x309000 = true then (some (wrap64 (-x7))) else (some x7)
end
def rational_Compare.f (k : Nat) (a0_0 : Bool) (a0_1 : ByteArray) (a0_2 : ByteArray) (a1_0 : Bool) (a1_1 : ByteArray) (a1_2 : ByteArray) : Option (Int) := (rational_clean.f k a0_0 a0_1 a0_2).bind fun bt310 => ((rational_clean.f k a1_0 a1_1 a1_2).bind fun bt313 => (rational_Compare.j0 k bt310.1 bt310.2.1 bt310.2.2 bt313.1 bt313.2.1 bt313.2.2))
theorem rational_Compare.mono_l : ∀ k, (∀ y0 y1 y2 y3 y4 y5, LeO (rational_Compare.j0 k y0 y1 y2 y3 y4 y5) (rational_Compare.j0 (k + 1) y0 y1 y2 y3 y4 y5)) ∧ (∀ y0 y1 y2 y3 y4 y5 y6 y7, LeO (rational_Compare.j1 k y0 y1 y2 y3 y4 y5 y6 y7) (rational_Compare.j1 (k + 1) y0 y1 y2 y3 y4 y5 y6 y7)) ∧ (∀ y0 y1 y2 y3, LeO (rational_Compare.j2 k y0 y1 y2 y3) (rational_Compare.j2 (k + 1) y0 y1 y2 y3))
 | 0 => ⟨fun _ _ _ _ _ _ r h => by simp [rational_Compare.j0] at h, fun _ _ _ _ _ _ _ _ r h => by simp [rational_Compare.j1] at h, fun _ _ _ _ r h => by simp [rational_Compare.j2] at h⟩
 | k + 1 => by
  obtain ⟨ih0, ih1, ih2⟩ := rational_Compare.mono_l k
  refine ⟨?_, ?_, ?_⟩
  ·intro y0 y1 y2 y3 y4 y5
   unfold rational_Compare.j0
   repeat' first
   | (with_reducible exact ih0 _ _ _ _ _ _)
   | (with_reducible exact ih1 _ _ _ _ _ _ _ _)
   | (with_reducible exact ih2 _ _ _ _)
   | (with_reducible exact natural_Compare.mono _ _ _)
   | (with_reducible exact natural_Multiply.mono _ _ _)
   | (with_reducible exact rational_clean.mono _ _ _ _)
   | (with_reducible exact LeO.refl _)
   | (with_reducible exact LeO.none _)
   | (with_reducible refine LeO.ite ?_ ?_)
   | (with_reducible refine LeO.bind ?_ (fun _ => ?_))
   | exact LeO.none _
   | refine LeO.ite ?_ ?_
   | refine LeO.bind ?_ (fun _ => ?_)
  ·intro y0 y1 y2 y3 y4 y5 y6 y7
   unfold rational_Compare.j1
   repeat' first
   | (with_reducible exact ih0 _ _ _ _ _ _)
   | (with_reducible exact ih1 _ _ _ _ _ _ _ _)
   | (with_reducible exact ih2 _ _ _ _)
   | (with_reducible exact natural_Compare.mono _ _ _)
   | (with_reducible exact natural_Multiply.mono _ _ _)
   | (with_reducible exact rational_clean.mono _ _ _ _)
   | (with_reducible exact LeO.refl _)
   | (with_reducible exact LeO.none _)
   | (with_reducible refine LeO.ite ?_ ?_)
   | (with_reducible refine LeO.bind ?_ (fun _ => ?_))
   | exact LeO.none _
   | refine LeO.ite ?_ ?_
   | refine LeO.bind ?_ (fun _ => ?_)
  ·intro y0 y1 y2 y3
   unfold rational_Compare.j2
   repeat' first
   | (with_reducible exact ih0 _ _ _ _ _ _)
   | (with_reducible exact ih1 _ _ _ _ _ _ _ _)
   | (with_reducible exact ih2 _ _ _ _)
   | (with_reducible exact natural_Compare.mono _ _ _)
   | (with_reducible exact natural_Multiply.mono _ _ _)
   | (with_reducible exact rational_clean.mono _ _ _ _)
   | (with_reducible exact LeO.refl _)
   | (with_reducible exact LeO.none _)
   | (with_reducible refine LeO.ite ?_ ?_)
   | (with_reducible refine LeO.bind ?_ (fun _ => ?_))
   | exact LeO.none _
   | refine LeO.ite ?_ ?_
   | refine LeO.bind ?_ (fun _ => ?_)
theorem rational_Compare.mono : ∀ a0 a1 a2 a3 a4 a5 k, LeO (rational_Compare.f k a0 a1 a2 a3 a4 a5) (rational_Compare.f (k + 1) a0 a1 a2 a3 a4 a5) := by
 intro a0 a1 a2 a3 a4 a5 k
 obtain ⟨ih0, ih1, ih2⟩ := rational_Compare.mono_l k
 unfold rational_Compare.f
 repeat' first
   | (with_reducible exact ih0 _ _ _ _ _ _)
   | (with_reducible exact ih1 _ _ _ _ _ _ _ _)
   | (with_reducible exact ih2 _ _ _ _)
   | (with_reducible exact natural_Compare.mono _ _ _)
   | (with_reducible exact natural_Multiply.mono _ _ _)
   | (with_reducible exact rational_clean.mono _ _ _ _)
   | (with_reducible exact LeO.refl _)
   | (with_reducible exact LeO.none _)
   | (with_reducible refine LeO.ite ?_ ?_)
   | (with_reducible refine LeO.bind ?_ (fun _ => ?_))
   | exact LeO.none _
   | refine LeO.ite ?_ ?_
   | refine LeO.bind ?_ (fun _ => ?_)
def rational_Compare.T7 : Bool × List (List Nat × List Nat) := (true, [([], []), ([0], [0]), ([], []), ([2], [2]), ([1, 3, 3], [1, 3]), ([], []), ([5], [5]), ([], []), ([7, 4], [7]), ([6, 8, 8], [6, 8]), ([4, 9, 9], [4, 9]), ([10, 10, 0, 1, 2, 3, 4, 5, 6, 7, 8, 9, 10], [10])])
def rational_Compare.B7 : List Nat := [0, 1, 0, 4, 15, 0, 32, 0, 159, 511, 1023, 2047]
theorem rational_Compare.tab7 : rtab .any (opsOf Tryd.f16 7) = rational_Compare.T7 := by kernel_rfl
theorem rational_Compare.bits7 : waitsOk rational_Compare.T7.2 rational_Compare.B7 = true := by kernel_rfl
set_option maxHeartbeats 8000000 in
set_option maxRecDepth 100000 in
theorem rational_Compare.calls (k : Nat) (a0_0 : Bool) (a0_1 : ByteArray) (a0_2 : ByteArray) (a1_0 : Bool) (a1_1 : ByteArray) (a1_2 : ByteArray) (r : Int) (w : World) (h : rational_Compare.f k a0_0 a0_1 a0_2 a1_0 a1_1 a1_2 = some r) :
  Calls Tryd.prog 16 #[.agg #[.bool a0_0, .string a0_1, .string a0_2], .agg #[.bool a1_0, .string a1_1, .string a1_2]] w fun e w' => e = .returned (.int .i64 r) ∧ Below w.heap.size w w' := by
 have hu33 := Tryd.underlying33
 have HB := aM (Below.refl w.heap.size w)
 have H : ((rational_clean.f k a0_0 a0_1 a0_2).bind fun bt310 => ((rational_clean.f k a1_0 a1_1 a1_2).bind fun bt313 => (rational_Compare.j0 k bt310.1 bt310.2.1 bt310.2.2 bt313.1 bt313.2.1 bt313.2.2))) = some r := h
 clear h
 have HC3 := Aside0.mk H
 clear H
 go_enter Tryd.func16, Tryd.ntmps16
 go_upto_region 1 with (first | ((with_reducible refine gate_dst (N := 2) rfl ?_); refine box_event ?hg (N := 2) ?hd (cs := #[.bool a0_0, .string a0_1, .string a0_2]) (t := 33) ?hr ?_; (case hd => rfl); (case hg => rfl); (case hr => first | (go_simp; done) | (go_simp; rfl)); intro gb308 hg w4 hbox hb; have n0_ := aM (below_step (bU HB.out) hb); have n1_ := aM (hbox); have n2_ := aM ((by rw [hg]; exact (below_size (bU HB.out)) : w.heap.size ≤ gb308)); have n3_ := aM ((by rw [hg]; exact (below_size (bU HB.out)) : w.heap.size ≤ gb308)); clear HB; have HB := n0_; have BK308 := n1_; have GW308 := n2_; have GE308 := n3_; clear n0_ n1_ n2_ n3_; clear hb hbox hg) | ((with_reducible refine gate_dst (N := 3) rfl ?_); refine box_event ?hg (N := 3) ?hd (cs := #[.bool a1_0, .string a1_1, .string a1_2]) (t := 33) ?hr ?_; (case hd => rfl); (case hg => rfl); (case hr => first | (go_simp; done) | (go_simp; rfl)); intro gb309 hg w5 hbox hb; have n0_ := aM (blk_below (kU BK308.out) hb); have n1_ := aM (below_step (bU HB.out) hb); have n2_ := aM (hbox); have n3_ := aM ((by rw [hg]; exact (below_size (bU HB.out)) : w.heap.size ≤ gb309)); have n4_ := aM ((by rw [hg]; exact (below_size (bU HB.out)) : w.heap.size ≤ gb309)); have n5_ := aM ((by rw [hg]; exact Nat.ne_of_lt (blk_lt (kU BK308.out)) : gb308 ≠ gb309)); have n6_ := aM ((by rw [hg]; exact Nat.ne_of_gt (blk_lt (kU BK308.out)) : gb309 ≠ gb308)); clear BK308; clear HB; have BK308 := n0_; have HB := n1_; have BK309 := n2_; have GW309 := n3_; have GE309 := n4_; have NB308_309 := n5_; have NB309_308 := n6_; clear n0_ n1_ n2_ n3_ n4_ n5_ n6_; clear hb hbox hg))
 (try simp only [Act.put, List.setIfInBounds_toArray, List.set_cons_zero, List.set_cons_succ])
 go_cut [] (fun wc => ∃ (kq : Nat) (x309000_2 : Bool) (x309001_2 : ByteArray) (x309002_2 : ByteArray) (x310000_2 : Bool) (x310001_2 : ByteArray) (x310002_2 : ByteArray), Aside0 (rational_Compare.j0 kq x309000_2 x309001_2 x309002_2 x310000_2 x310001_2 x310002_2 = some r) ∧ Aside0 (kq ≤ k) ∧ Aside0 (wc.heap[gb308]? = some (.cells #[.bool x309000_2, .string x309001_2, .string x309002_2] 33 (0, 0))) ∧ Aside0 (wc.heap[gb309]? = some (.cells #[.bool x310000_2, .string x310001_2, .string x310002_2] 33 (0, 0))) ∧ Aside0 (Below w.heap.size w wc))
 case first =>
  have H := HC3.out
  clear HC3
  replace H := bE H
  obtain ⟨⟨t310, t311, t312⟩, A60, H⟩ := H
  replace H : ((rational_clean.f k a1_0 a1_1 a1_2).bind fun bt313 => (rational_Compare.j0 k t310 t311 t312 bt313.1 bt313.2.1 bt313.2.2)) = some r := H
  have A6 := Aside0.mk A60
  clear A60
  replace H := bE H
  obtain ⟨⟨t313, t314, t315⟩, A70, H⟩ := H
  replace H : (rational_Compare.j0 k t310 t311 t312 t313 t314 t315) = some r := H
  have A7 := Aside0.mk A70
  clear A70
  have H' := Aside0.mk H
  clear H
  try go_wp2
  have n0_ := aM (blk_drew BK308.out)
  have n1_ := aM (blk_drew BK309.out)
  have n2_ := aM (below_drew1 HB.out)
  clear BK308
  clear BK309
  clear HB
  have BK308 := n0_
  have BK309 := n1_
  have HB := n2_
  clear n0_ n1_ n2_
  refine start_ (n := 6) (S := fun w' => w'.cell? ⟨gb308, 0, none⟩ = some (.bool a0_0) ∧ w'.cell? ⟨gb308, 1, none⟩ = some (.string a0_1) ∧ w'.cell? ⟨gb308, 2, none⟩ = some (.string a0_2) ∧ w'.cell? ⟨gb309, 0, none⟩ = some (.bool a1_0) ∧ w'.cell? ⟨gb309, 1, none⟩ = some (.string a1_1) ∧ w'.cell? ⟨gb309, 2, none⟩ = some (.string a1_2)) (ds := [4, 5]) #[false, false, false, false, false, false] (by kernel_rfl) rfl rfl ⟨(blk_cell BK308.out 0).trans rfl, (blk_cell BK308.out 1).trans rfl, (blk_cell BK308.out 2).trans rfl, (blk_cell BK309.out 0).trans rfl, (blk_cell BK309.out 1).trans rfl, (blk_cell BK309.out 2).trans rfl⟩ (fun hHeld => ?_)
  generalize w5.drew = w8 at BK308 BK309 HB hHeld ⊢
  refine take_ (i := 0) (N := some 8) (v := ?_) (a' := ?_) #[true, false, false, false, false, false] rfl rfl (by kernel_rfl) (fun _ _ _ h => h) (Or.inl ⟨by rfl, ?_⟩) hHeld ?_ ?_
  rotate_left
  ·rintro w' ⟨s0, s1, s2, s3, s4, s5⟩
   go_simp
   with_reducible rfl
  rotate_left
  ·simp only [Act.put, sTA, sC0, sCS, i64_w, i32_w]
   rfl
  refine take_ (i := 2) (N := some 10) (v := ?_) (a' := ?_) #[true, false, true, false, false, false] rfl rfl (by kernel_rfl) (fun _ _ _ h => h) (Or.inl ⟨by rfl, ?_⟩) hHeld ?_ ?_
  rotate_left
  ·rintro w' ⟨s0, s1, s2, s3, s4, s5⟩
   go_simp
   with_reducible rfl
  rotate_left
  ·simp only [Act.put, sTA, sC0, sCS, i64_w, i32_w]
   rfl
  refine one_ (i := 1) (N := some 9) #[true, true, true, false, false, false] rfl rfl (by kernel_rfl) (by decide) (fun K hK => ?_)
  refine goesq Tryd.func32 #[.agg #[.bool a0_0, .string a0_1, .string a0_2]] (by rfl) rfl rfl ?_
  with_reducible refine (rational_clean.calls k a0_0 a0_1 a0_2 t310 t311 t312 _ A6.out).mono ?_
  rintro e w9 ⟨rfl, hb⟩
  refine ⟨_, rfl, ?_⟩
  have n0_ := aM (blk_below (kU BK308.out) hb)
  have n1_ := aM (blk_below (kU BK309.out) hb)
  have n2_ := aM (below_step (bU HB.out) hb)
  clear BK308
  clear BK309
  clear HB
  have BK308 := n0_
  have BK309 := n1_
  have HB := n2_
  clear n0_ n1_ n2_
  (try clear hb)
  (try clear hb2)
  (try clear hk)
  (try clear hi)
  refine hK.out _ _ ⟨(blk_cell BK308.out 0).trans rfl, (blk_cell BK308.out 1).trans rfl, (blk_cell BK308.out 2).trans rfl, (blk_cell BK309.out 0).trans rfl, (blk_cell BK309.out 1).trans rfl, (blk_cell BK309.out 2).trans rfl⟩ (fun hHeld => ?_)
  clear hK K
  refine norm_ (a' := ?_) ?_ ?_
  rotate_left
  ·show Act.put _ (some 9) _ = _
   simp only [Act.put, sTA, sC0, sCS, i64_w, i32_w]
   rfl
  refine one_ (i := 3) (N := some 11) #[true, true, true, true, false, false] rfl rfl (by kernel_rfl) (by decide) (fun K hK => ?_)
  refine goesq Tryd.func32 #[.agg #[.bool a1_0, .string a1_1, .string a1_2]] (by rfl) rfl rfl ?_
  with_reducible refine (rational_clean.calls k a1_0 a1_1 a1_2 t313 t314 t315 _ A7.out).mono ?_
  rintro e w10 ⟨rfl, hb⟩
  refine ⟨_, rfl, ?_⟩
  have n0_ := aM (blk_below (kU BK308.out) hb)
  have n1_ := aM (blk_below (kU BK309.out) hb)
  have n2_ := aM (below_step (bU HB.out) hb)
  clear BK308
  clear BK309
  clear HB
  have BK308 := n0_
  have BK309 := n1_
  have HB := n2_
  clear n0_ n1_ n2_
  (try clear hb)
  (try clear hb2)
  (try clear hk)
  (try clear hi)
  refine hK.out _ _ ⟨(blk_cell BK308.out 0).trans rfl, (blk_cell BK308.out 1).trans rfl, (blk_cell BK308.out 2).trans rfl, (blk_cell BK309.out 0).trans rfl, (blk_cell BK309.out 1).trans rfl, (blk_cell BK309.out 2).trans rfl⟩ (fun hHeld => ?_)
  clear hK K
  refine norm_ (a' := ?_) ?_ ?_
  rotate_left
  ·show Act.put _ (some 11) _ = _
   simp only [Act.put, sTA, sC0, sCS, i64_w, i32_w]
   rfl
  refine last_ (i := 4) (N := none) #[true, true, true, true, true, false] rfl rfl (by kernel_rfl) (by decide) (fun K hK => ?_)
  have hs11 : w10.cell? ⟨gb308, 0, none⟩ = some (.bool a0_0) := (blk_cell BK308.out 0).trans rfl
  have hfs11 := blk_frozen BK308.out 0
  have hns11_1 := NB309_308.out
  have hms11_1 := NB308_309.out
  have hs12 : w10.cell? ⟨gb308, 1, none⟩ = some (.string a0_1) := (blk_cell BK308.out 1).trans rfl
  have hfs12 := blk_frozen BK308.out 1
  have hns12_1 := NB309_308.out
  have hms12_1 := NB308_309.out
  have hs13 : w10.cell? ⟨gb308, 2, none⟩ = some (.string a0_2) := (blk_cell BK308.out 2).trans rfl
  have hfs13 := blk_frozen BK308.out 2
  have hns13_1 := NB309_308.out
  have hms13_1 := NB308_309.out
  refine skip_ (w1 := ?_) (by rfl) rfl ?_ ?_
  rotate_left
  ·go_simp
   rfl
  refine hK.out _ _ ?_
  clear hK K
  refine last_ (i := 5) (N := none) #[true, true, true, true, true, true] rfl rfl (by kernel_rfl) (by decide) (fun K hK => ?_)
  have hs14 : w10.cell? ⟨gb309, 0, none⟩ = some (.bool a1_0) := (blk_cell BK309.out 0).trans rfl
  have hfs14 := blk_frozen BK309.out 0
  have hns14_0 := NB308_309.out
  have hms14_0 := NB309_308.out
  have hs15 : w10.cell? ⟨gb309, 1, none⟩ = some (.string a1_1) := (blk_cell BK309.out 1).trans rfl
  have hfs15 := blk_frozen BK309.out 1
  have hns15_0 := NB308_309.out
  have hms15_0 := NB309_308.out
  have hs16 : w10.cell? ⟨gb309, 2, none⟩ = some (.string a1_2) := (blk_cell BK309.out 2).trans rfl
  have hfs16 := blk_frozen BK309.out 2
  have hns16_0 := NB308_309.out
  have hms16_0 := NB309_308.out
  refine skip_ (w1 := ?_) (by rfl) rfl ?_ ?_
  rotate_left
  ·go_simp
   rfl
  refine hK.out _ _ ?_
  clear hK K
  refine done_ (by kernel_rfl) ?_
  try go_wp2
  go_meet
  case rel => exact ⟨_, (t310), (t311), (t312), (t313), (t314), (t315), H', ⟨by first | omega | exact Nat.le_refl _⟩, ⟨kP BK308.out⟩, ⟨kP BK309.out⟩, ⟨bU HB.out⟩⟩
 case rest =>
  clear HC3
  (try clear c1); (try clear p2); (try clear c3); (try clear c16)
  obtain ⟨kq, x309000_2, x309001_2, x309002_2, x310000_2, x310001_2, x310002_2, HA, HJ2, BK308, BK309, HB⟩ := hcut
  cases kq with
  | zero => exact absurd HA.out (by simp [rational_Compare.j0])
  | succ kj2 =>
   have H := HA.out
   clear HA
   simp only [rational_Compare.j0] at H
   have HC17 := Aside0.mk H
   clear H
   go_upto_region 2 with (fail)
   go_cut [5, 6] (fun v5 v6 wc => ∃ (kq : Nat) (x5_16 : Int) (x6_16 : Int), v5 = .int .i64 x5_16 ∧ v6 = .int .i64 x6_16 ∧ Aside0 (rational_Compare.j1 kq x5_16 x6_16 x309000_2 x309001_2 x309002_2 x310000_2 x310001_2 x310002_2 = some r) ∧ Aside0 (kq ≤ kj2) ∧ Aside0 (wc.heap[gb308]? = some (.cells #[.bool x309000_2, .string x309001_2, .string x309002_2] 33 (0, 0))) ∧ Aside0 (wc.heap[gb309]? = some (.cells #[.bool x310000_2, .string x310001_2, .string x310002_2] 33 (0, 0))) ∧ Aside0 (Below w.heap.size w wc))
   case first =>
    have H := HC17.out
    clear HC17
    replace H := bE H
    obtain ⟨t316, A180, H⟩ := H
    replace H : ((rational_signOf.f x310000_2 x310001_2 x310002_2).bind fun t317 => (rational_Compare.j1 kj2 t316 t317 x309000_2 x309001_2 x309002_2 x310000_2 x310001_2 x310002_2)) = some r := H
    have A18 := Aside0.mk A180
    clear A180
    replace H := bE H
    obtain ⟨t317, A190, H⟩ := H
    replace H : (rational_Compare.j1 kj2 t316 t317 x309000_2 x309001_2 x309002_2 x310000_2 x310001_2 x310002_2) = some r := H
    have A19 := Aside0.mk A190
    clear A190
    have H' := Aside0.mk H
    clear H
    try go_wp2
    have n0_ := aM (blk_drew BK308.out)
    have n1_ := aM (blk_drew BK309.out)
    have n2_ := aM (below_drew1 HB.out)
    clear BK308
    clear BK309
    clear HB
    have BK308 := n0_
    have BK309 := n1_
    have HB := n2_
    clear n0_ n1_ n2_
    refine start_ (n := 6) (S := fun w' => w'.cell? ⟨gb308, 0, none⟩ = some (.bool x309000_2) ∧ w'.cell? ⟨gb308, 1, none⟩ = some (.string x309001_2) ∧ w'.cell? ⟨gb308, 2, none⟩ = some (.string x309002_2) ∧ w'.cell? ⟨gb309, 0, none⟩ = some (.bool x310000_2) ∧ w'.cell? ⟨gb309, 1, none⟩ = some (.string x310001_2) ∧ w'.cell? ⟨gb309, 2, none⟩ = some (.string x310002_2)) (ds := []) #[false, false, false, false, false, false] (by kernel_rfl) rfl rfl ⟨(blk_cell BK308.out 0).trans rfl, (blk_cell BK308.out 1).trans rfl, (blk_cell BK308.out 2).trans rfl, (blk_cell BK309.out 0).trans rfl, (blk_cell BK309.out 1).trans rfl, (blk_cell BK309.out 2).trans rfl⟩ (fun hHeld => ?_)
    generalize wc.drew = w20 at BK308 BK309 HB hHeld ⊢
    refine take_ (i := 0) (N := some 12) (v := ?_) (a' := ?_) #[true, false, false, false, false, false] rfl rfl (by kernel_rfl) (fun _ _ _ h => h) (Or.inl ⟨by rfl, ?_⟩) hHeld ?_ ?_
    rotate_left
    ·rintro w' ⟨s0, s1, s2, s3, s4, s5⟩
     go_simp
     with_reducible rfl
    rotate_left
    ·simp only [Act.put, sTA, sC0, sCS, i64_w, i32_w]
     rfl
    refine take_ (i := 2) (N := some 14) (v := ?_) (a' := ?_) #[true, false, true, false, false, false] rfl rfl (by kernel_rfl) (fun _ _ _ h => h) (Or.inl ⟨by rfl, ?_⟩) hHeld ?_ ?_
    rotate_left
    ·rintro w' ⟨s0, s1, s2, s3, s4, s5⟩
     go_simp
     with_reducible rfl
    rotate_left
    ·simp only [Act.put, sTA, sC0, sCS, i64_w, i32_w]
     rfl
    refine one_ (i := 1) (N := some 13) #[true, true, true, false, false, false] rfl rfl (by kernel_rfl) (by decide) (fun K hK => ?_)
    refine goesq Tryd.func33 #[.agg #[.bool x309000_2, .string x309001_2, .string x309002_2]] (by rfl) rfl rfl ?_
    with_reducible refine (rational_signOf.calls x309000_2 x309001_2 x309002_2 t316 _ A18.out).mono ?_
    rintro e w21 ⟨rfl, hb⟩
    refine ⟨_, rfl, ?_⟩
    have n0_ := aM (blk_below (kU BK308.out) hb)
    have n1_ := aM (blk_below (kU BK309.out) hb)
    have n2_ := aM (below_step (bU HB.out) hb)
    clear BK308
    clear BK309
    clear HB
    have BK308 := n0_
    have BK309 := n1_
    have HB := n2_
    clear n0_ n1_ n2_
    (try clear hb)
    (try clear hb2)
    (try clear hk)
    (try clear hi)
    refine hK.out _ _ ⟨(blk_cell BK308.out 0).trans rfl, (blk_cell BK308.out 1).trans rfl, (blk_cell BK308.out 2).trans rfl, (blk_cell BK309.out 0).trans rfl, (blk_cell BK309.out 1).trans rfl, (blk_cell BK309.out 2).trans rfl⟩ (fun hHeld => ?_)
    clear hK K
    refine norm_ (a' := ?_) ?_ ?_
    rotate_left
    ·show Act.put _ (some 13) _ = _
     simp only [Act.put, sTA, sC0, sCS, i64_w, i32_w]
     rfl
    refine one_ (i := 3) (N := some 15) #[true, true, true, true, false, false] rfl rfl (by kernel_rfl) (by decide) (fun K hK => ?_)
    refine goesq Tryd.func33 #[.agg #[.bool x310000_2, .string x310001_2, .string x310002_2]] (by rfl) rfl rfl ?_
    with_reducible refine (rational_signOf.calls x310000_2 x310001_2 x310002_2 t317 _ A19.out).mono ?_
    rintro e w22 ⟨rfl, hb⟩
    refine ⟨_, rfl, ?_⟩
    have n0_ := aM (blk_below (kU BK308.out) hb)
    have n1_ := aM (blk_below (kU BK309.out) hb)
    have n2_ := aM (below_step (bU HB.out) hb)
    clear BK308
    clear BK309
    clear HB
    have BK308 := n0_
    have BK309 := n1_
    have HB := n2_
    clear n0_ n1_ n2_
    (try clear hb)
    (try clear hb2)
    (try clear hk)
    (try clear hi)
    refine hK.out _ _ ⟨(blk_cell BK308.out 0).trans rfl, (blk_cell BK308.out 1).trans rfl, (blk_cell BK308.out 2).trans rfl, (blk_cell BK309.out 0).trans rfl, (blk_cell BK309.out 1).trans rfl, (blk_cell BK309.out 2).trans rfl⟩ (fun hHeld => ?_)
    clear hK K
    refine norm_ (a' := ?_) ?_ ?_
    rotate_left
    ·show Act.put _ (some 15) _ = _
     simp only [Act.put, sTA, sC0, sCS, i64_w, i32_w]
     rfl
    refine pure_ (i := 4) (N := some 5) (v := ?_) (a' := ?_) #[true, true, true, true, true, false] rfl rfl (by kernel_rfl) (fun _ _ _ h => h) (Or.inl ⟨by rfl, ?_⟩) ?_ ?_
    rotate_left
    ·intro w'
     go_simp
     with_reducible rfl
    rotate_left
    ·simp only [Act.put, sTA, sC0, sCS, i64_w, i32_w]
     rfl
    refine pure_ (i := 5) (N := some 6) (v := ?_) (a' := ?_) #[true, true, true, true, true, true] rfl rfl (by kernel_rfl) (fun _ _ _ h => h) (Or.inl ⟨by rfl, ?_⟩) ?_ ?_
    rotate_left
    ·intro w'
     go_simp
     with_reducible rfl
    rotate_left
    ·simp only [Act.put, sTA, sC0, sCS, i64_w, i32_w]
     rfl
    refine done_ (by kernel_rfl) ?_
    try go_wp2
    go_meet
    case rel => exact ⟨_, (t316), (t317), (by first | rfl | (simp; done) | (simp [*]; done)), (by first | rfl | (simp; done) | (simp [*]; done)), H', ⟨by have := HJ2.out; first | omega | exact Nat.le_refl _⟩, ⟨kU BK308.out⟩, ⟨kU BK309.out⟩, ⟨bU HB.out⟩⟩
   case rest =>
    clear HC17
    (try clear c1); (try clear p2); (try clear c3); (try clear c16); (try clear p2)
    obtain ⟨kq, x5_16, x6_16, rfl, rfl, HA, HJ16, BK308, BK309, HB⟩ := hcut
    cases kq with
    | zero => exact absurd HA.out (by simp [rational_Compare.j1])
    | succ kj16 =>
     have H := HA.out
     clear HA
     simp only [rational_Compare.j1] at H
     by_cases c23 : x5_16 = x6_16
     ·rw [if_pos c23] at H
      have c23b0 : (x5_16 == x6_16) = true := beq_iff_eq.mpr c23
      have c23b1 : (x5_16 != x6_16) = false := bne_eq_false_iff_eq.mpr c23
      clear c23
      have HC24 := Aside0.mk H
      clear H
      go_upto_region 7 with (fail)
      go_cut [7] (fun v7 wc => ∃ (kq : Nat) (x7_23 : Int), v7 = .int .i64 x7_23 ∧ Aside0 (rational_Compare.j2 kq x7_23 x309000_2 x309001_2 x309002_2 = some r) ∧ Aside0 (kq ≤ kj16) ∧ Aside0 (wc.heap[gb308]? = some (.cells #[.bool x309000_2, .string x309001_2, .string x309002_2] 33 (0, 0))) ∧ Aside0 (wc.heap[gb309]? = some (.cells #[.bool x310000_2, .string x310001_2, .string x310002_2] 33 (0, 0))) ∧ Aside0 (Below w.heap.size w wc))
      case first =>
       have H := HC24.out
       clear HC24
       replace H := bE H
       obtain ⟨t318, A250, H⟩ := H
       replace H : ((natural_Multiply.f kj16 x309001_2 t318).bind fun t319 => ((rational_den.f x309000_2 x309001_2 x309002_2).bind fun t320 => ((natural_Multiply.f kj16 x310001_2 t320).bind fun t321 => ((natural_Compare.f kj16 t319 t321).bind fun t322 => (rational_Compare.j2 kj16 t322 x309000_2 x309001_2 x309002_2))))) = some r := H
       have A25 := Aside0.mk A250
       clear A250
       replace H := bE H
       obtain ⟨t319, A260, H⟩ := H
       replace H : ((rational_den.f x309000_2 x309001_2 x309002_2).bind fun t320 => ((natural_Multiply.f kj16 x310001_2 t320).bind fun t321 => ((natural_Compare.f kj16 t319 t321).bind fun t322 => (rational_Compare.j2 kj16 t322 x309000_2 x309001_2 x309002_2)))) = some r := H
       have A26 := Aside0.mk A260
       clear A260
       replace H := bE H
       obtain ⟨t320, A270, H⟩ := H
       replace H : ((natural_Multiply.f kj16 x310001_2 t320).bind fun t321 => ((natural_Compare.f kj16 t319 t321).bind fun t322 => (rational_Compare.j2 kj16 t322 x309000_2 x309001_2 x309002_2))) = some r := H
       have A27 := Aside0.mk A270
       clear A270
       replace H := bE H
       obtain ⟨t321, A280, H⟩ := H
       replace H : ((natural_Compare.f kj16 t319 t321).bind fun t322 => (rational_Compare.j2 kj16 t322 x309000_2 x309001_2 x309002_2)) = some r := H
       have A28 := Aside0.mk A280
       clear A280
       replace H := bE H
       obtain ⟨t322, A290, H⟩ := H
       replace H : (rational_Compare.j2 kj16 t322 x309000_2 x309001_2 x309002_2) = some r := H
       have A29 := Aside0.mk A290
       clear A290
       have H' := Aside0.mk H
       clear H
       try go_wp2
       have n0_ := aM (blk_drew BK308.out)
       have n1_ := aM (blk_drew BK309.out)
       have n2_ := aM (below_drew1 HB.out)
       clear BK308
       clear BK309
       clear HB
       have BK308 := n0_
       have BK309 := n1_
       have HB := n2_
       clear n0_ n1_ n2_
       refine start_ (n := 12) (S := fun w' => w'.cell? ⟨gb308, 0, none⟩ = some (.bool x309000_2) ∧ w'.cell? ⟨gb308, 1, none⟩ = some (.string x309001_2) ∧ w'.cell? ⟨gb308, 2, none⟩ = some (.string x309002_2) ∧ w'.cell? ⟨gb309, 0, none⟩ = some (.bool x310000_2) ∧ w'.cell? ⟨gb309, 1, none⟩ = some (.string x310001_2) ∧ w'.cell? ⟨gb309, 2, none⟩ = some (.string x310002_2)) (ds := []) #[false, false, false, false, false, false, false, false, false, false, false, false] (by kernel_rfl) rfl rfl ⟨(blk_cell BK308.out 0).trans rfl, (blk_cell BK308.out 1).trans rfl, (blk_cell BK308.out 2).trans rfl, (blk_cell BK309.out 0).trans rfl, (blk_cell BK309.out 1).trans rfl, (blk_cell BK309.out 2).trans rfl⟩ (fun hHeld => ?_); refine with_tabW rational_Compare.tab7 rational_Compare.bits7 (fun HT_ HW_ => ?_)
       generalize wc.drew = w30 at BK308 BK309 HB hHeld ⊢
       refine pureq (i := 0) (N := some 22) HT_.out rfl rfl ?_
       refine pureq (i := 5) (N := some 27) HT_.out rfl rfl ?_
       refine takeq (i := 1) (N := some 23) HT_.out HW_.out hHeld rfl rfl ?_
       refine takeq (i := 2) (N := some 24) HT_.out HW_.out hHeld rfl rfl ?_
       refine takeq (i := 6) (N := some 28) HT_.out HW_.out hHeld rfl rfl ?_
       refine takeq (i := 7) (N := some 29) HT_.out HW_.out hHeld rfl rfl ?_
       refine one_ (i := 3) (N := some 25) #[true, true, true, true, false, true, true, true, false, false, false, false] rfl rfl (one_of HT_.out (by kernel_rfl)) (by decide) (fun K hK => ?_)
       refine goesq Tryd.func36 #[.agg #[.bool x310000_2, .string x310001_2, .string x310002_2]] (by rfl) rfl rfl ?_
       with_reducible refine (rational_den.calls x310000_2 x310001_2 x310002_2 t318 _ A25.out).mono ?_
       rintro e w31 ⟨rfl, hb⟩
       refine ⟨_, rfl, ?_⟩
       have n0_ := aM (blk_below (kU BK308.out) hb)
       have n1_ := aM (blk_below (kU BK309.out) hb)
       have n2_ := aM (below_step (bU HB.out) hb)
       clear BK308
       clear BK309
       clear HB
       have BK308 := n0_
       have BK309 := n1_
       have HB := n2_
       clear n0_ n1_ n2_
       (try clear hb)
       (try clear hb2)
       (try clear hk)
       (try clear hi)
       refine hK.out _ _ ⟨(blk_cell BK308.out 0).trans rfl, (blk_cell BK308.out 1).trans rfl, (blk_cell BK308.out 2).trans rfl, (blk_cell BK309.out 0).trans rfl, (blk_cell BK309.out 1).trans rfl, (blk_cell BK309.out 2).trans rfl⟩ (fun hHeld => ?_)
       clear hK K
       refine norm_ (a' := ?_) ?_ ?_
       rotate_left
       ·show Act.put _ (some 25) _ = _
        simp only [Act.put, sTA, sC0, sCS, i64_w, i32_w]
        rfl
       refine one_ (i := 4) (N := some 26) #[true, true, true, true, true, true, true, true, false, false, false, false] rfl rfl (one_of HT_.out (by kernel_rfl)) (by decide) (fun K hK => ?_)
       refine goesq Tryd.func35 #[.string x309001_2, .string t318] (by rfl) rfl rfl ?_
       with_reducible refine (natural_Multiply.calls kj16 x309001_2 t318 t319 _ A26.out).mono ?_
       rintro e w32 ⟨rfl, hb⟩
       refine ⟨_, rfl, ?_⟩
       have n0_ := aM (blk_below (kU BK308.out) hb)
       have n1_ := aM (blk_below (kU BK309.out) hb)
       have n2_ := aM (below_step (bU HB.out) hb)
       clear BK308
       clear BK309
       clear HB
       have BK308 := n0_
       have BK309 := n1_
       have HB := n2_
       clear n0_ n1_ n2_
       (try clear hb)
       (try clear hb2)
       (try clear hk)
       (try clear hi)
       refine hK.out _ _ ⟨(blk_cell BK308.out 0).trans rfl, (blk_cell BK308.out 1).trans rfl, (blk_cell BK308.out 2).trans rfl, (blk_cell BK309.out 0).trans rfl, (blk_cell BK309.out 1).trans rfl, (blk_cell BK309.out 2).trans rfl⟩ (fun hHeld => ?_)
       clear hK K
       refine norm_ (a' := ?_) ?_ ?_
       rotate_left
       ·show Act.put _ (some 26) _ = _
        simp only [Act.put, sTA, sC0, sCS, i64_w, i32_w]
        rfl
       refine one_ (i := 8) (N := some 30) #[true, true, true, true, true, true, true, true, true, false, false, false] rfl rfl (one_of HT_.out (by kernel_rfl)) (by decide) (fun K hK => ?_)
       refine goesq Tryd.func36 #[.agg #[.bool x309000_2, .string x309001_2, .string x309002_2]] (by rfl) rfl rfl ?_
       with_reducible refine (rational_den.calls x309000_2 x309001_2 x309002_2 t320 _ A27.out).mono ?_
       rintro e w33 ⟨rfl, hb⟩
       refine ⟨_, rfl, ?_⟩
       have n0_ := aM (blk_below (kU BK308.out) hb)
       have n1_ := aM (blk_below (kU BK309.out) hb)
       have n2_ := aM (below_step (bU HB.out) hb)
       clear BK308
       clear BK309
       clear HB
       have BK308 := n0_
       have BK309 := n1_
       have HB := n2_
       clear n0_ n1_ n2_
       (try clear hb)
       (try clear hb2)
       (try clear hk)
       (try clear hi)
       refine hK.out _ _ ⟨(blk_cell BK308.out 0).trans rfl, (blk_cell BK308.out 1).trans rfl, (blk_cell BK308.out 2).trans rfl, (blk_cell BK309.out 0).trans rfl, (blk_cell BK309.out 1).trans rfl, (blk_cell BK309.out 2).trans rfl⟩ (fun hHeld => ?_)
       clear hK K
       refine norm_ (a' := ?_) ?_ ?_
       rotate_left
       ·show Act.put _ (some 30) _ = _
        simp only [Act.put, sTA, sC0, sCS, i64_w, i32_w]
        rfl
       refine one_ (i := 9) (N := some 31) #[true, true, true, true, true, true, true, true, true, true, false, false] rfl rfl (one_of HT_.out (by kernel_rfl)) (by decide) (fun K hK => ?_)
       refine goesq Tryd.func35 #[.string x310001_2, .string t320] (by rfl) rfl rfl ?_
       with_reducible refine (natural_Multiply.calls kj16 x310001_2 t320 t321 _ A28.out).mono ?_
       rintro e w34 ⟨rfl, hb⟩
       refine ⟨_, rfl, ?_⟩
       have n0_ := aM (blk_below (kU BK308.out) hb)
       have n1_ := aM (blk_below (kU BK309.out) hb)
       have n2_ := aM (below_step (bU HB.out) hb)
       clear BK308
       clear BK309
       clear HB
       have BK308 := n0_
       have BK309 := n1_
       have HB := n2_
       clear n0_ n1_ n2_
       (try clear hb)
       (try clear hb2)
       (try clear hk)
       (try clear hi)
       refine hK.out _ _ ⟨(blk_cell BK308.out 0).trans rfl, (blk_cell BK308.out 1).trans rfl, (blk_cell BK308.out 2).trans rfl, (blk_cell BK309.out 0).trans rfl, (blk_cell BK309.out 1).trans rfl, (blk_cell BK309.out 2).trans rfl⟩ (fun hHeld => ?_)
       clear hK K
       refine norm_ (a' := ?_) ?_ ?_
       rotate_left
       ·show Act.put _ (some 31) _ = _
        simp only [Act.put, sTA, sC0, sCS, i64_w, i32_w]
        rfl
       refine one_ (i := 10) (N := some 32) #[true, true, true, true, true, true, true, true, true, true, true, false] rfl rfl (one_of HT_.out (by kernel_rfl)) (by decide) (fun K hK => ?_)
       refine goesq Tryd.func34 #[.string t319, .string t321] (by rfl) rfl rfl ?_
       with_reducible refine (natural_Compare.calls kj16 t319 t321 t322 _ A29.out).mono ?_
       rintro e w35 ⟨rfl, hb⟩
       refine ⟨_, rfl, ?_⟩
       have n0_ := aM (blk_below (kU BK308.out) hb)
       have n1_ := aM (blk_below (kU BK309.out) hb)
       have n2_ := aM (below_step (bU HB.out) hb)
       clear BK308
       clear BK309
       clear HB
       have BK308 := n0_
       have BK309 := n1_
       have HB := n2_
       clear n0_ n1_ n2_
       (try clear hb)
       (try clear hb2)
       (try clear hk)
       (try clear hi)
       refine hK.out _ _ ⟨(blk_cell BK308.out 0).trans rfl, (blk_cell BK308.out 1).trans rfl, (blk_cell BK308.out 2).trans rfl, (blk_cell BK309.out 0).trans rfl, (blk_cell BK309.out 1).trans rfl, (blk_cell BK309.out 2).trans rfl⟩ (fun hHeld => ?_)
       clear hK K
       refine norm_ (a' := ?_) ?_ ?_
       rotate_left
       ·show Act.put _ (some 32) _ = _
        simp only [Act.put, sTA, sC0, sCS, i64_w, i32_w]
        rfl
       refine pureq (i := 11) (N := some 7) HT_.out rfl rfl ?_
       refine done_ (done_of HT_.out (by kernel_rfl)) ?_
       try go_wp2
       go_meet
       case rel => exact ⟨_, (t322), (by first | rfl | (simp; done) | (simp [*]; done)), H', ⟨by have := HJ2.out; have := HJ16.out; first | omega | exact Nat.le_refl _⟩, ⟨kU BK308.out⟩, ⟨kU BK309.out⟩, ⟨bU HB.out⟩⟩
      case rest =>
       clear HC24
       (try clear c1); (try clear c2); (try clear p2); (try clear c3); (try clear c16); (try clear c23); (try clear c23b0); (try clear c23b1); (try clear c32); (try clear c33); (try clear c34); (try clear c35); (try clear p2)
       obtain ⟨kq, x7_23, rfl, HA, HJ23, BK308, BK309, HB⟩ := hcut
       cases kq with
       | zero => exact absurd HA.out (by simp [rational_Compare.j2])
       | succ kj23 =>
        have H := HA.out
        clear HA
        simp only [rational_Compare.j2] at H
        by_cases c36 : x309000_2 = true
        ·subst c36
         have H1 : (some (wrap64 (-x7_23))) = some r := by rw [if_pos rfl] at H; exact H
         clear H
         have H := H1
         clear H1
         obtain rfl := Option.some.inj H
         have hnb37 := NB308_309.out
         have hnc37 := NB309_308.out
         obtain ⟨hcz38_0, hcz38_1, hcz38_2, hfz38_0, hfz38_1, hfz38_2⟩ := cz3 BK308.out
         go_wp2
         go_ret
         exact ⟨by first | rfl | (simp [errW_none, errW_some] <;> rfl) | (simp [*, errW_none, errW_some] <;> rfl), bU HB.out⟩
        ·replace c36 := Bool.eq_false_iff.mpr c36
         subst c36
         have H1 : (some x7_23) = some r := by rw [if_neg (show ¬ (false = true) by decide)] at H; exact H
         clear H
         have H := H1
         clear H1
         obtain rfl := Option.some.inj H
         have hnb39 := NB308_309.out
         have hnc39 := NB309_308.out
         obtain ⟨hcz40_0, hcz40_1, hcz40_2, hfz40_0, hfz40_1, hfz40_2⟩ := cz3 BK308.out
         go_wp2
         go_ret
         exact ⟨by first | rfl | (simp [errW_none, errW_some] <;> rfl) | (simp [*, errW_none, errW_some] <;> rfl), bU HB.out⟩
     ·rw [if_neg c23] at H
      have c23b0 : (x5_16 == x6_16) = false := beq_eq_false_iff_ne.mpr c23
      have c23b1 : (x5_16 != x6_16) = true := bne_iff_ne.mpr c23
      by_cases c41 : x5_16 < x6_16
      ·rw [if_pos c41] at H
       have c41b0 := decide_eq_true c41
       clear c41
       obtain rfl := Option.some.inj H
       go_wp2
       go_ret
       exact ⟨by first | rfl | (simp [errW_none, errW_some] <;> rfl) | (simp [*, errW_none, errW_some] <;> rfl), bU HB.out⟩
      ·rw [if_neg c41] at H
       have c41b0 := decide_eq_false c41
       clear c41
       obtain rfl := Option.some.inj H
       go_wp2
       go_ret
       exact ⟨by first | rfl | (simp [errW_none, errW_some] <;> rfl) | (simp [*, errW_none, errW_some] <;> rfl), bU HB.out⟩

/-! ### party_is: function 21 -/
def party_is.f (l0_0 : List Int) (l0_1 : List (S36)) (l0_2 : List (S38)) (a1 : Int) : Option (Bool) := if a1 ≥ 0 then (some (decide (a1 < (l0_0.length : Int)))) else (some false)
set_option maxHeartbeats 8000000 in
set_option maxRecDepth 100000 in
theorem party_is.calls (A0_0 : Option Addr) (c0_0 : Nat) (l0_0 : List Int) (A0_1 : Option Addr) (c0_1 : Nat) (l0_1 : List (S36)) (A0_2 : Option Addr) (c0_2 : Nat) (l0_2 : List (S38)) (a1 : Int) (r : Bool) (w : World) (hr0_0 : Kd.C (Kd.int .i64) w A0_0 l0_0.length l0_0) (hc0_0 : l0_0.length ≤ c0_0) (hr0_1 : Kd.C k36 w A0_1 l0_1.length l0_1) (hc0_1 : l0_1.length ≤ c0_1) (hr0_2 : Kd.C k38 w A0_2 l0_2.length l0_2) (hc0_2 : l0_2.length ≤ c0_2) (h : party_is.f l0_0 l0_1 l0_2 a1 = some r) :
  Calls Tryd.prog 21 #[.agg #[.slice A0_0 l0_0.length c0_0, .slice A0_1 l0_1.length c0_1, .slice A0_2 l0_2.length c0_2], .int .i64 a1] w fun e w' => e = .returned (.bool r) ∧ Below w.heap.size w w' := by
 have hu26 := Tryd.underlying26
 have HR0_0 := Aside0.mk hr0_0
 have HC0_0 := Aside0.mk hc0_0
 clear hr0_0 hc0_0
 have HR0_1 := Aside0.mk hr0_1
 have HC0_1 := Aside0.mk hc0_1
 clear hr0_1 hc0_1
 have HR0_2 := Aside0.mk hr0_2
 have HC0_2 := Aside0.mk hc0_2
 clear hr0_2 hc0_2
 have HB := aM (Below.refl w.heap.size w)
 have H : (if a1 ≥ 0 then (some (decide (a1 < (l0_0.length : Int)))) else (some false)) = some r := h
 clear h
 by_cases c3 : a1 ≥ 0
 ·rw [if_pos c3] at H
  have c3b0 : decide (0 ≤ a1) = true := decide_eq_true c3
  clear c3
  obtain rfl := Option.some.inj H
  go_enter Tryd.func21, Tryd.ntmps21
  go_wp2_with (first | ((with_reducible refine gate_dst (N := 2) rfl ?_); refine box_event ?hg (N := 2) ?hd (cs := #[.slice A0_0 l0_0.length c0_0, .slice A0_1 l0_1.length c0_1, .slice A0_2 l0_2.length c0_2]) (t := 26) ?hr ?_; (case hd => rfl); (case hg => rfl); (case hr => first | (go_simp; done) | (go_simp; rfl)); intro gb323 hg w4 hbox hb; have n0_ := aM (below_step (bU HB.out) hb); have n1_ := aM (hbox); have n2_ := aM ((by rw [hg]; exact (below_size (bU HB.out)) : w.heap.size ≤ gb323)); have n3_ := aM ((by rw [hg]; exact (below_size (bU HB.out)) : w.heap.size ≤ gb323)); clear HB; have HB := n0_; have BK323 := n1_; have GW323 := n2_; have GE323 := n3_; clear n0_ n1_ n2_ n3_; clear hb hbox hg; obtain ⟨hcz5_0, hcz5_1, hcz5_2, hfz5_0, hfz5_1, hfz5_2⟩ := cz3 BK323.out))
  go_ret
  exact ⟨by first | rfl | (simp [errW_none, errW_some] <;> rfl) | (simp [*, errW_none, errW_some] <;> rfl), bU HB.out⟩
 ·rw [if_neg c3] at H
  have c3b0 : decide (0 ≤ a1) = false := decide_eq_false c3
  clear c3
  obtain rfl := Option.some.inj H
  go_enter Tryd.func21, Tryd.ntmps21
  go_wp2_with (first | ((with_reducible refine gate_dst (N := 2) rfl ?_); refine box_event ?hg (N := 2) ?hd (cs := #[.slice A0_0 l0_0.length c0_0, .slice A0_1 l0_1.length c0_1, .slice A0_2 l0_2.length c0_2]) (t := 26) ?hr ?_; (case hd => rfl); (case hg => rfl); (case hr => first | (go_simp; done) | (go_simp; rfl)); intro gb323 hg w6 hbox hb; have n0_ := aM (below_step (bU HB.out) hb); have n1_ := aM (hbox); have n2_ := aM ((by rw [hg]; exact (below_size (bU HB.out)) : w.heap.size ≤ gb323)); have n3_ := aM ((by rw [hg]; exact (below_size (bU HB.out)) : w.heap.size ≤ gb323)); clear HB; have HB := n0_; have BK323 := n1_; have GW323 := n2_; have GE323 := n3_; clear n0_ n1_ n2_ n3_; clear hb hbox hg))
  go_ret
  exact ⟨by first | rfl | (simp [errW_none, errW_some] <;> rfl) | (simp [*, errW_none, errW_some] <;> rfl), bU HB.out⟩

/-! ### rational_Sign: function 22 -/
def rational_Sign.f (k : Nat) (a0_0 : Bool) (a0_1 : ByteArray) (a0_2 : ByteArray) : Option (Int) := (rational_clean.f k a0_0 a0_1 a0_2).bind fun bt325 => ((rational_signOf.f bt325.1 bt325.2.1 bt325.2.2).bind fun t328 => (some t328))
theorem rational_Sign.mono : ∀ a0 a1 a2 k, LeO (rational_Sign.f k a0 a1 a2) (rational_Sign.f (k + 1) a0 a1 a2) := by
 intro a0 a1 a2 k
 unfold rational_Sign.f
 repeat' first
   | (with_reducible exact rational_clean.mono _ _ _ _)
   | (with_reducible exact LeO.refl _)
   | (with_reducible exact LeO.none _)
   | (with_reducible refine LeO.ite ?_ ?_)
   | (with_reducible refine LeO.bind ?_ (fun _ => ?_))
   | exact LeO.none _
   | refine LeO.ite ?_ ?_
   | refine LeO.bind ?_ (fun _ => ?_)
set_option maxHeartbeats 8000000 in
set_option maxRecDepth 100000 in
theorem rational_Sign.calls (k : Nat) (a0_0 : Bool) (a0_1 : ByteArray) (a0_2 : ByteArray) (r : Int) (w : World) (h : rational_Sign.f k a0_0 a0_1 a0_2 = some r) :
  Calls Tryd.prog 22 #[.agg #[.bool a0_0, .string a0_1, .string a0_2]] w fun e w' => e = .returned (.int .i64 r) ∧ Below w.heap.size w w' := by
 have hu33 := Tryd.underlying33
 have HB := aM (Below.refl w.heap.size w)
 have H : ((rational_clean.f k a0_0 a0_1 a0_2).bind fun bt325 => ((rational_signOf.f bt325.1 bt325.2.1 bt325.2.2).bind fun t328 => (some t328))) = some r := h
 clear h
 replace H := bE H
 obtain ⟨⟨t325, t326, t327⟩, A20, H⟩ := H
 replace H : ((rational_signOf.f t325 t326 t327).bind fun t328 => (some t328)) = some r := H
 have A2 := Aside0.mk A20
 clear A20
 replace H := bE H
 obtain ⟨t328, A30, H⟩ := H
 replace H : (some t328) = some r := H
 have A3 := Aside0.mk A30
 clear A30
 obtain rfl := Option.some.inj H
 go_enter Tryd.func22, Tryd.ntmps22
 go_wp2_with (first | ((with_reducible refine gate_dst (N := 1) rfl ?_); refine box_event ?hg (N := 1) ?hd (cs := #[.bool a0_0, .string a0_1, .string a0_2]) (t := 33) ?hr ?_; (case hd => rfl); (case hg => rfl); (case hr => first | (go_simp; done) | (go_simp; rfl)); intro gb324 hg w4 hbox hb; have n0_ := aM (below_step (bU HB.out) hb); have n1_ := aM (hbox); have n2_ := aM ((by rw [hg]; exact (below_size (bU HB.out)) : w.heap.size ≤ gb324)); have n3_ := aM ((by rw [hg]; exact (below_size (bU HB.out)) : w.heap.size ≤ gb324)); clear HB; have HB := n0_; have BK324 := n1_; have GW324 := n2_; have GE324 := n3_; clear n0_ n1_ n2_ n3_; clear hb hbox hg; obtain ⟨hcz5_0, hcz5_1, hcz5_2, hfz5_0, hfz5_1, hfz5_2⟩ := cz3 BK324.out) | ((with_reducible refine gate_callee (f := 32) rfl ?_); refine goesLq (some 4) rfl rfl Tryd.func32 #[.agg #[.bool a0_0, .string a0_1, .string a0_2]] rfl ?_; (with_reducible refine (rational_clean.calls k a0_0 a0_1 a0_2 t325 t326 t327 _ A2.out).mono ?_); rintro e w6 ⟨rfl, hb⟩; refine ⟨_, rfl, ?_⟩; have n0_ := aM (blk_below (kU BK324.out) hb); have n1_ := aM (below_step (bU HB.out) hb); clear BK324; clear HB; have BK324 := n0_; have HB := n1_; clear n0_ n1_; (try clear hb); (try clear hb2); (try clear hk); (try clear hi)) | ((with_reducible refine gate_callee (f := 33) rfl ?_); refine goesLq (some 5) rfl rfl Tryd.func33 #[.agg #[.bool t325, .string t326, .string t327]] rfl ?_; (with_reducible refine (rational_signOf.calls t325 t326 t327 t328 _ A3.out).mono ?_); rintro e w7 ⟨rfl, hb⟩; refine ⟨_, rfl, ?_⟩; have n0_ := aM (blk_below (kU BK324.out) hb); have n1_ := aM (below_step (bU HB.out) hb); clear BK324; clear HB; have BK324 := n0_; have HB := n1_; clear n0_ n1_; (try clear hb); (try clear hb2); (try clear hk); (try clear hi)))
 go_ret
 exact ⟨by first | rfl | (simp [errW_none, errW_some] <;> rfl) | (simp [*, errW_none, errW_some] <;> rfl), bU HB.out⟩

/-! ### natural_Divide: function 59 -/
def natural_Divide.f (k : Nat) (a0 : ByteArray) (a1 : ByteArray) : Option (ByteArray × ByteArray × Bool) := (natural_parse.f k a1).bind fun t329 => (if (t329.length : Int) = 0 then (some ((⟨#[]⟩ : ByteArray), (⟨#[]⟩ : ByteArray), false)) else ((natural_parse.f k a0).bind fun t332 => ((natural_divide.f k t332 t329).bind fun bt335 => ((natural_limbs_text.f k bt335.1).bind fun t341 => ((natural_limbs_text.f k bt335.2).bind fun t342 => (some (t341, t342, true)))))))
theorem natural_Divide.mono : ∀ a0 a1 k, LeO (natural_Divide.f k a0 a1) (natural_Divide.f (k + 1) a0 a1) := by
 intro a0 a1 k
 unfold natural_Divide.f
 repeat' first
   | (with_reducible exact natural_divide.mono _ _ _)
   | (with_reducible exact natural_limbs_text.mono _ _)
   | (with_reducible exact natural_parse.mono _ _)
   | (with_reducible exact LeO.refl _)
   | (with_reducible exact LeO.none _)
   | (with_reducible refine LeO.ite ?_ ?_)
   | (with_reducible refine LeO.bind ?_ (fun _ => ?_))
   | exact LeO.none _
   | refine LeO.ite ?_ ?_
   | refine LeO.bind ?_ (fun _ => ?_)
set_option maxHeartbeats 8000000 in
set_option maxRecDepth 100000 in
theorem natural_Divide.calls (k : Nat) (a0 : ByteArray) (a1 : ByteArray) (r1 : ByteArray) (r2 : ByteArray) (r3 : Bool) (w : World) (h : natural_Divide.f k a0 a1 = some (r1, r2, r3)) :
  Calls Tryd.prog 59 #[.string a0, .string a1] w fun e w' => e = .returned (.tuple #[.string r1, .string r2, .bool r3]) ∧ Below w.heap.size w w' := by
 have HB := aM (Below.refl w.heap.size w)
 have H : ((natural_parse.f k a1).bind fun t329 => (if (t329.length : Int) = 0 then (some ((⟨#[]⟩ : ByteArray), (⟨#[]⟩ : ByteArray), false)) else ((natural_parse.f k a0).bind fun t332 => ((natural_divide.f k t332 t329).bind fun bt335 => ((natural_limbs_text.f k bt335.1).bind fun t341 => ((natural_limbs_text.f k bt335.2).bind fun t342 => (some (t341, t342, true)))))))) = some (r1, r2, r3) := h
 clear h
 replace H := bE H
 obtain ⟨t329, A30, H⟩ := H
 replace H : (if (t329.length : Int) = 0 then (some ((⟨#[]⟩ : ByteArray), (⟨#[]⟩ : ByteArray), false)) else ((natural_parse.f k a0).bind fun t332 => ((natural_divide.f k t332 t329).bind fun bt335 => ((natural_limbs_text.f k bt335.1).bind fun t341 => ((natural_limbs_text.f k bt335.2).bind fun t342 => (some (t341, t342, true))))))) = some (r1, r2, r3) := H
 have A3 := Aside0.mk A30
 clear A30
 by_cases c4 : (t329.length : Int) = 0
 ·rw [if_pos c4] at H
  have c4b0 : ((t329.length : Int) == 0) = true := beq_iff_eq.mpr c4
  have c4b1 : ((t329.length : Int) != 0) = false := bne_eq_false_iff_eq.mpr c4
  clear c4
  simp only [Option.some.injEq, Prod.mk.injEq] at H
  obtain ⟨rfl, rfl, rfl⟩ := H
  go_enter Tryd.func59, Tryd.ntmps59
  go_wp2_with (first | ((with_reducible refine gate_callee (f := 54) rfl ?_); refine goesLq (some 11) rfl rfl Tryd.func54 #[.string a1] rfl ?_; (with_reducible refine (natural_parse.calls k a1 t329 _ A3.out).mono ?_); rintro e w5 ⟨v330, rfl, ho0, hb⟩; refine ⟨_, rfl, ?_⟩; have n0_ := aM (Kd.V_lower (Kd.V_mono (ok' := fun k_ => True) ho0 (fun k_ hk_ => trivial)) (below_size (bU HB.out))); have n1_ := aM (below_step (bU HB.out) hb); clear HB; have HO331 := n0_; have HB := n1_; clear n0_ n1_; (try clear hb); (try clear hb2); (try clear hk); (try clear hi); (try clear ho0); obtain ⟨Ao6, co6, eo6⟩ := Kd.V_slice HO331.out; subst eo6))
  go_ret3
  exact ⟨by first | rfl | (simp [errW_none, errW_some] <;> rfl) | (simp [*, errW_none, errW_some] <;> rfl), bU HB.out⟩
 ·rw [if_neg c4] at H
  have c4b0 : ((t329.length : Int) == 0) = false := beq_eq_false_iff_ne.mpr c4
  have c4b1 : ((t329.length : Int) != 0) = true := bne_iff_ne.mpr c4
  have c4b2 : ¬ (t329 = []) := fun h_ => c4 (by rw [h_]; rfl)
  replace H := bE H
  obtain ⟨t332, A70, H⟩ := H
  replace H : ((natural_divide.f k t332 t329).bind fun bt335 => ((natural_limbs_text.f k bt335.1).bind fun t341 => ((natural_limbs_text.f k bt335.2).bind fun t342 => (some (t341, t342, true))))) = some (r1, r2, r3) := H
  have A7 := Aside0.mk A70
  clear A70
  replace H := bE H
  obtain ⟨⟨t335, t338⟩, A80, H⟩ := H
  replace H : ((natural_limbs_text.f k t335).bind fun t341 => ((natural_limbs_text.f k t338).bind fun t342 => (some (t341, t342, true)))) = some (r1, r2, r3) := H
  have A8 := Aside0.mk A80
  clear A80
  replace H := bE H
  obtain ⟨t341, A90, H⟩ := H
  replace H : ((natural_limbs_text.f k t338).bind fun t342 => (some (t341, t342, true))) = some (r1, r2, r3) := H
  have A9 := Aside0.mk A90
  clear A90
  replace H := bE H
  obtain ⟨t342, A100, H⟩ := H
  replace H : (some (t341, t342, true)) = some (r1, r2, r3) := H
  have A10 := Aside0.mk A100
  clear A100
  simp only [Option.some.injEq, Prod.mk.injEq] at H
  obtain ⟨rfl, rfl, rfl⟩ := H
  go_enter Tryd.func59, Tryd.ntmps59
  go_wp2_with (first | ((with_reducible refine gate_callee (f := 54) rfl ?_); refine goesLq (some 11) rfl rfl Tryd.func54 #[.string a1] rfl ?_; (with_reducible refine (natural_parse.calls k a1 t329 _ A3.out).mono ?_); rintro e w11 ⟨v330, rfl, ho0, hb⟩; refine ⟨_, rfl, ?_⟩; have n0_ := aM (Kd.V_lower (Kd.V_mono (ok' := fun k_ => True) ho0 (fun k_ hk_ => trivial)) (below_size (bU HB.out))); have n1_ := aM (below_step (bU HB.out) hb); clear HB; have HO331 := n0_; have HB := n1_; clear n0_ n1_; (try clear hb); (try clear hb2); (try clear hk); (try clear hi); (try clear ho0); obtain ⟨Ao12, co12, eo12⟩ := Kd.V_slice HO331.out; subst eo12) | ((with_reducible refine gate_callee (f := 54) rfl ?_); refine goesLq (some 17) rfl rfl Tryd.func54 #[.string a0] rfl ?_; (with_reducible refine (natural_parse.calls k a0 t332 _ A7.out).mono ?_); rintro e w13 ⟨v333, rfl, ho0, hb⟩; refine ⟨_, rfl, ?_⟩; have n0_ := aM (Kd.V_below (Kd.V_up HO331.out) hb); have n1_ := aM (Kd.V_lower (Kd.V_mono (ok' := fun k_ => True) ho0 (fun k_ hk_ => trivial)) (below_size (bU HB.out))); have n2_ := aM (below_step (bU HB.out) hb); clear HO331; clear HB; have HO331 := n0_; have HO334 := n1_; have HB := n2_; clear n0_ n1_ n2_; (try clear hb); (try clear hb2); (try clear hk); (try clear hi); (try clear ho0); obtain ⟨Ao14, co14, eo14⟩ := Kd.V_slice HO334.out; subst eo14) | ((with_reducible refine gate_callee (f := 78) rfl ?_); refine goesLq (some 19) rfl rfl Tryd.func78 #[.slice Ao14 t332.length co14, .slice Ao12 t329.length co12] rfl ?_; (with_reducible refine (natural_divide.calls k (fun k_ => True) _ _ t332 _ _ t329 t335 t338 _ ?side1 ?side2 ?side3 A8.out).mono ?_); (case side1 => exact HO334.out); (case side2 => exact Kd.C_up (Kd.V_reads' HO331.out).2.2); (case side3 => exact (Kd.V_reads' HO331.out).2.1); rintro e w15 ⟨v336, v339, rfl, ho0, ho1, hb⟩; refine ⟨_, rfl, ?_⟩; have n0_ := aM (Kd.V_below (Kd.V_up HO331.out) hb); have n1_ := aM (Kd.V_below (Kd.V_up HO334.out) hb); have n2_ := aM (Kd.V_lower (Kd.V_mono (ok' := fun k_ => True) ho0 (fun k_ hk_ => trivial)) (below_size (bU HB.out))); have n3_ := aM (Kd.V_lower (Kd.V_mono (ok' := fun k_ => True) ho1 (fun k_ hk_ => trivial)) (below_size (bU HB.out))); have n4_ := aM (below_step (bU HB.out) hb); clear HO331; clear HO334; clear HB; have HO331 := n0_; have HO334 := n1_; have HO337 := n2_; have HO340 := n3_; have HB := n4_; clear n0_ n1_ n2_ n3_ n4_; (try clear hb); (try clear hb2); (try clear hk); (try clear hi); (try clear ho0); (try clear ho1); obtain ⟨Ao16, co16, eo16⟩ := Kd.V_slice HO337.out; subst eo16) | ((with_reducible refine gate_callee (f := 55) rfl ?_); refine goesLq (some 23) rfl rfl Tryd.func55 #[.slice Ao16 t335.length co16] rfl ?_; (with_reducible refine (natural_limbs_text.calls k _ _ t335 t341 _ ?side1 ?side2 A9.out).mono ?_); (case side1 => exact Kd.C_up (Kd.V_reads' HO337.out).2.2); (case side2 => exact (Kd.V_reads' HO337.out).2.1); rintro e w17 ⟨rfl, hb⟩; refine ⟨_, rfl, ?_⟩; have n0_ := aM (Kd.V_below (Kd.V_up HO331.out) hb); have n1_ := aM (Kd.V_below (Kd.V_up HO334.out) hb); have n2_ := aM (Kd.V_below (Kd.V_up HO337.out) hb); have n3_ := aM (Kd.V_below (Kd.V_up HO340.out) hb); have n4_ := aM (below_step (bU HB.out) hb); clear HO331; clear HO334; clear HO337; clear HO340; clear HB; have HO331 := n0_; have HO334 := n1_; have HO337 := n2_; have HO340 := n3_; have HB := n4_; clear n0_ n1_ n2_ n3_ n4_; (try clear hb); (try clear hb2); (try clear hk); (try clear hi); obtain ⟨Ao18, co18, eo18⟩ := Kd.V_slice HO340.out; subst eo18) | ((with_reducible refine gate_callee (f := 55) rfl ?_); refine goesLq (some 25) rfl rfl Tryd.func55 #[.slice Ao18 t338.length co18] rfl ?_; (with_reducible refine (natural_limbs_text.calls k _ _ t338 t342 _ ?side1 ?side2 A10.out).mono ?_); (case side1 => exact Kd.C_up (Kd.V_reads' HO340.out).2.2); (case side2 => exact (Kd.V_reads' HO340.out).2.1); rintro e w19 ⟨rfl, hb⟩; refine ⟨_, rfl, ?_⟩; have n0_ := aM (Kd.V_below (Kd.V_up HO331.out) hb); have n1_ := aM (Kd.V_below (Kd.V_up HO334.out) hb); have n2_ := aM (Kd.V_below (Kd.V_up HO337.out) hb); have n3_ := aM (Kd.V_below (Kd.V_up HO340.out) hb); have n4_ := aM (below_step (bU HB.out) hb); clear HO331; clear HO334; clear HO337; clear HO340; clear HB; have HO331 := n0_; have HO334 := n1_; have HO337 := n2_; have HO340 := n3_; have HB := n4_; clear n0_ n1_ n2_ n3_ n4_; (try clear hb); (try clear hb2); (try clear hk); (try clear hi)))
  go_ret3
  exact ⟨by first | rfl | (simp [errW_none, errW_some] <;> rfl) | (simp [*, errW_none, errW_some] <;> rfl), bU HB.out⟩

end Go.Proofs.YtjeamaahhpbbkaaDoor.PAll
