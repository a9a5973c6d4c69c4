-- PRINTED by a session's own changed print
import Derived.Test.YtjeamaahhpbbkaaDoorPAllx0
import Derived.Test.YtjeamaahhpbbkaaDoorPAllx4
import Derived.Test.YtjeamaahhpbbkaaDoorPAllx5
namespace Go.Proofs.YtjeamaahhpbbkaaDoor.PAll
open Go.RowKit Go.Proofs.YtjeamaahhpbbkaaDoorW.PrintWords Go.Proofs.YtjeamaahhpbbkaaDoorW.PrintLast
set_option linter.unusedVariables false
set_option linter.unusedSimpArgs false

/-! ### rational_Valid: function 50 -/
def rational_Valid.j0 : Nat → Bool → Bool → ByteArray → ByteArray → Option (Bool)
 | 0, _, _, _, _ => none
 | k + 1, x16, x280000, x280001, x280002 => if x16 = true then (some false) else (if x280001.toList = ([] : List UInt8) then (if x280000 = true then (some false) else (some (x280002.toList == ([] : List UInt8)))) else (if x280002.toList = ([] : List UInt8) then (some true) else (if x280002.toList = ([1] : List UInt8) then (some false) else ((natural_GCD.f k x280001 x280002).bind fun t282 => (some (t282.toList == ([1] : List UInt8)))))))
def rational_Valid.f (k : Nat) (a0_0 : Bool) (a0_1 : ByteArray) (a0_2 : ByteArray) : Option (Bool) := (natural_Normalize.f k a0_1).bind fun t280 => (if t280.toList = a0_1.toList then ((natural_Normalize.f k a0_2).bind fun t281 => (rational_Valid.j0 k (t281.toList != a0_2.toList) a0_0 a0_1 a0_2)) else (rational_Valid.j0 k true a0_0 a0_1 a0_2))
theorem rational_Valid.mono_l : ∀ k, (∀ y0 y1 y2 y3, LeO (rational_Valid.j0 k y0 y1 y2 y3) (rational_Valid.j0 (k + 1) y0 y1 y2 y3))
 | 0 => fun _ _ _ _ r h => by simp [rational_Valid.j0] at h
 | k + 1 => by
  have ih0 := rational_Valid.mono_l k
  ·intro y0 y1 y2 y3
   unfold rational_Valid.j0
   repeat' first
   | (with_reducible exact ih0 _ _ _ _)
   | (with_reducible exact natural_GCD.mono _ _ _)
   | (with_reducible exact natural_Normalize.mono _ _)
   | (with_reducible exact LeO.refl _)
   | (with_reducible exact LeO.none _)
   | (with_reducible refine LeO.ite ?_ ?_)
   | (with_reducible refine LeO.bind ?_ (fun _ => ?_))
   | exact LeO.none _
   | refine LeO.ite ?_ ?_
   | refine LeO.bind ?_ (fun _ => ?_)
theorem rational_Valid.mono : ∀ a0 a1 a2 k, LeO (rational_Valid.f k a0 a1 a2) (rational_Valid.f (k + 1) a0 a1 a2) := by
 intro a0 a1 a2 k
 have ih0 := rational_Valid.mono_l k
 unfold rational_Valid.f
 repeat' first
   | (with_reducible exact ih0 _ _ _ _)
   | (with_reducible exact natural_GCD.mono _ _ _)
   | (with_reducible exact natural_Normalize.mono _ _)
   | (with_reducible exact LeO.refl _)
   | (with_reducible exact LeO.none _)
   | (with_reducible refine LeO.ite ?_ ?_)
   | (with_reducible refine LeO.bind ?_ (fun _ => ?_))
   | exact LeO.none _
   | refine LeO.ite ?_ ?_
   | refine LeO.bind ?_ (fun _ => ?_)
def rational_Valid.T1 : Bool × List (List Nat × List Nat) := (true, [([], []), ([0], [0]), ([1], [1]), ([], []), ([3], [3]), ([2, 4], [2, 4]), ([5, 2], [5]), ([6], [6]), ([7, 6], [6, 7]), ([8, 6, 6], [6, 8]), ([6], [6]), ([10, 6], [6, 10]), ([9, 11, 6], [6, 9, 11]), ([6, 12], [6, 12])])
def rational_Valid.B1 : List Nat := [0, 1, 3, 0, 8, 31, 63, 127, 255, 511, 127, 1151, 4095, 8191]
theorem rational_Valid.tab1 : rtab .any (opsOf Tryd.f50 1) = rational_Valid.T1 := by kernel_rfl
theorem rational_Valid.bits1 : waitsOk rational_Valid.T1.2 rational_Valid.B1 = true := by kernel_rfl
set_option maxHeartbeats 8000000 in
set_option maxRecDepth 100000 in
theorem rational_Valid.calls (k : Nat) (a0_0 : Bool) (a0_1 : ByteArray) (a0_2 : ByteArray) (r : Bool) (w : World) (h : rational_Valid.f k a0_0 a0_1 a0_2 = some r) :
  Calls Tryd.prog 50 #[.agg #[.bool a0_0, .string a0_1, .string a0_2]] w fun e w' => e = .returned (.bool r) ∧ Below w.heap.size w w' := by
 have hu33 := Tryd.underlying33
 have HB := aM (Below.refl w.heap.size w)
 have H : ((natural_Normalize.f k a0_1).bind fun t280 => (if t280.toList = a0_1.toList then ((natural_Normalize.f k a0_2).bind fun t281 => (rational_Valid.j0 k (t281.toList != a0_2.toList) a0_0 a0_1 a0_2)) else (rational_Valid.j0 k true a0_0 a0_1 a0_2))) = some r := h
 clear h
 have HC2 := Aside0.mk H
 clear H
 go_enter Tryd.func50, Tryd.ntmps50
 go_upto_region 1 with (first | ((with_reducible refine gate_dst (N := 1) rfl ?_); refine box_event ?hg (N := 1) ?hd (cs := #[.bool a0_0, .string a0_1, .string a0_2]) (t := 33) ?hr ?_; (case hd => rfl); (case hg => rfl); (case hr => first | (go_simp; done) | (go_simp; rfl)); intro gb279 hg w3 hbox hb; have n0_ := aM (below_step (bU HB.out) hb); have n1_ := aM (hbox); have n2_ := aM ((by rw [hg]; exact (below_size (bU HB.out)) : w.heap.size ≤ gb279)); have n3_ := aM ((by rw [hg]; exact (below_size (bU HB.out)) : w.heap.size ≤ gb279)); clear HB; have HB := n0_; have BK279 := n1_; have GW279 := n2_; have GE279 := n3_; clear n0_ n1_ n2_ n3_; clear hb hbox hg))
 (try simp only [Act.put, List.setIfInBounds_toArray, List.set_cons_zero, List.set_cons_succ])
 go_cut [16] (fun v16 wc => ∃ (kq : Nat) (x16_1 : Bool), v16 = .bool x16_1 ∧ Aside0 (rational_Valid.j0 kq x16_1 a0_0 a0_1 a0_2 = some r) ∧ Aside0 (kq ≤ k) ∧ Aside0 (wc.heap[gb279]? = some (.cells #[.bool a0_0, .string a0_1, .string a0_2] 33 (0, 0))) ∧ Aside0 (Below w.heap.size w wc))
 case first =>
  have H := HC2.out
  clear HC2
  replace H := bE H
  obtain ⟨t280, A40, H⟩ := H
  replace H : (if t280.toList = a0_1.toList then ((natural_Normalize.f k a0_2).bind fun t281 => (rational_Valid.j0 k (t281.toList != a0_2.toList) a0_0 a0_1 a0_2)) else (rational_Valid.j0 k true a0_0 a0_1 a0_2)) = some r := H
  have A4 := Aside0.mk A40
  clear A40
  by_cases c5 : t280.toList = a0_1.toList
  ·rw [if_pos c5] at H
   have c5b0 : (t280.toList == a0_1.toList) = true := beq_iff_eq.mpr c5
   have c5b1 : (t280.toList != a0_1.toList) = false := bne_eq_false_iff_eq.mpr c5
   clear c5
   (first | rw [c5b0] | (simp only [i64_w, i32_w]; rw [c5b0]) | rw [c5b1] | skip)
   replace H := bE H
   obtain ⟨t281, A60, H⟩ := H
   replace H : (rational_Valid.j0 k (t281.toList != a0_2.toList) a0_0 a0_1 a0_2) = some r := H
   have A6 := Aside0.mk A60
   clear A60
   have H' := Aside0.mk H
   clear H
   try go_wp2
   have n0_ := aM (blk_drew BK279.out)
   have n1_ := aM (below_drew1 HB.out)
   clear BK279
   clear HB
   have BK279 := n0_
   have HB := n1_
   clear n0_ n1_
   refine start_ (n := 14) (S := fun w' => w'.cell? ⟨gb279, 0, none⟩ = some (.bool a0_0) ∧ w'.cell? ⟨gb279, 1, none⟩ = some (.string a0_1) ∧ w'.cell? ⟨gb279, 2, none⟩ = some (.string a0_2)) (ds := []) #[false, false, false, false, false, false, false, false, false, false, false, false, false, false] (by kernel_rfl) rfl rfl ⟨(blk_cell BK279.out 0).trans rfl, (blk_cell BK279.out 1).trans rfl, (blk_cell BK279.out 2).trans rfl⟩ (fun hHeld => ?_); refine with_tabW rational_Valid.tab1 rational_Valid.bits1 (fun HT_ HW_ => ?_)
   generalize w3.drew = w7 at BK279 HB hHeld ⊢
   refine pureq (i := 0) (N := some 3) HT_.out rfl rfl ?_
   refine pureq (i := 3) (N := some 6) HT_.out rfl rfl ?_
   refine takeq (i := 1) (N := some 4) HT_.out HW_.out hHeld rfl rfl ?_
   refine takeq (i := 4) (N := some 7) HT_.out HW_.out hHeld rfl rfl ?_
   refine one_ (i := 2) (N := some 5) #[true, true, true, true, true, false, false, false, false, false, false, false, false, false] rfl rfl (one_of HT_.out (by kernel_rfl)) (by decide) (fun K hK => ?_)
   refine goesq Tryd.func51 #[.string a0_1] (by rfl) rfl rfl ?_
   with_reducible refine (natural_Normalize.calls k a0_1 t280 _ A4.out).mono ?_
   rintro e w8 ⟨rfl, hb⟩
   refine ⟨_, rfl, ?_⟩
   have n0_ := aM (blk_below (kU BK279.out) hb)
   have n1_ := aM (below_step (bU HB.out) hb)
   clear BK279
   clear HB
   have BK279 := n0_
   have HB := n1_
   clear n0_ n1_
   (try clear hb)
   (try clear hb2)
   (try clear hk)
   (try clear hi)
   refine hK.out _ _ ⟨(blk_cell BK279.out 0).trans rfl, (blk_cell BK279.out 1).trans rfl, (blk_cell BK279.out 2).trans rfl⟩ (fun hHeld => ?_)
   clear hK K
   refine norm_ (a' := ?_) ?_ ?_
   rotate_left
   ·show Act.put _ (some 5) _ = _
    simp only [Act.put, sTA, sC0, sCS, i64_w, i32_w]
    rfl
   refine pureq (i := 5) (N := some 8) HT_.out rfl rfl ?_
   refine pureq (i := 6) (N := some 9) HT_.out rfl rfl ?_
   refine pureq (i := 7) (N := some 10) HT_.out rfl rfl ?_
   refine pureq (i := 10) (N := some 13) HT_.out rfl rfl ?_
   refine takeq (i := 8) (N := some 11) HT_.out HW_.out hHeld rfl rfl ?_
   refine takeq (i := 11) (N := some 14) HT_.out HW_.out hHeld rfl rfl ?_
   refine one_ (i := 9) (N := some 12) #[true, true, true, true, true, true, true, true, true, true, true, true, false, false] rfl rfl (one_of HT_.out (by kernel_rfl)) (by decide) (fun K hK => ?_)
   refine goesq Tryd.func51 #[.string a0_2] (by rfl) rfl rfl ?_
   with_reducible refine (natural_Normalize.calls k a0_2 t281 _ A6.out).mono ?_
   rintro e w9 ⟨rfl, hb⟩
   refine ⟨_, rfl, ?_⟩
   have n0_ := aM (blk_below (kU BK279.out) hb)
   have n1_ := aM (below_step (bU HB.out) hb)
   clear BK279
   clear HB
   have BK279 := n0_
   have HB := n1_
   clear n0_ n1_
   (try clear hb)
   (try clear hb2)
   (try clear hk)
   (try clear hi)
   refine hK.out _ _ ⟨(blk_cell BK279.out 0).trans rfl, (blk_cell BK279.out 1).trans rfl, (blk_cell BK279.out 2).trans rfl⟩ (fun hHeld => ?_)
   clear hK K
   refine norm_ (a' := ?_) ?_ ?_
   rotate_left
   ·show Act.put _ (some 12) _ = _
    simp only [Act.put, sTA, sC0, sCS, i64_w, i32_w]
    rfl
   refine pureq (i := 12) (N := some 15) HT_.out rfl rfl ?_
   refine pureq (i := 13) (N := some 16) HT_.out rfl rfl ?_
   refine done_ (done_of HT_.out (by kernel_rfl)) ?_
   try go_wp2
   go_meet
   case rel => exact ⟨_, ((t281.toList != a0_2.toList)), (by first | rfl | (simp; done) | (simp [*]; done)), H', ⟨by first | omega | exact Nat.le_refl _⟩, ⟨kU BK279.out⟩, ⟨bU HB.out⟩⟩
  ·rw [if_neg c5] at H
   have c5b0 : (t280.toList == a0_1.toList) = false := beq_eq_false_iff_ne.mpr c5
   have c5b1 : (t280.toList != a0_1.toList) = true := bne_iff_ne.mpr c5
   (first | rw [c5b0] | (simp only [i64_w, i32_w]; rw [c5b0]) | rw [c5b1] | skip)
   have H' := Aside0.mk H
   clear H
   try go_wp2
   have n0_ := aM (blk_drew BK279.out)
   have n1_ := aM (below_drew1 HB.out)
   clear BK279
   clear HB
   have BK279 := n0_
   have HB := n1_
   clear n0_ n1_
   refine start_ (n := 14) (S := fun w' => w'.cell? ⟨gb279, 0, none⟩ = some (.bool a0_0) ∧ w'.cell? ⟨gb279, 1, none⟩ = some (.string a0_1) ∧ w'.cell? ⟨gb279, 2, none⟩ = some (.string a0_2)) (ds := []) #[false, false, false, false, false, false, false, false, false, false, false, false, false, false] (by kernel_rfl) rfl rfl ⟨(blk_cell BK279.out 0).trans rfl, (blk_cell BK279.out 1).trans rfl, (blk_cell BK279.out 2).trans rfl⟩ (fun hHeld => ?_); refine with_tabW rational_Valid.tab1 rational_Valid.bits1 (fun HT_ HW_ => ?_)
   generalize w3.drew = w10 at BK279 HB hHeld ⊢
   refine pureq (i := 0) (N := some 3) HT_.out rfl rfl ?_
   refine pureq (i := 3) (N := some 6) HT_.out rfl rfl ?_
   refine takeq (i := 1) (N := some 4) HT_.out HW_.out hHeld rfl rfl ?_
   refine takeq (i := 4) (N := some 7) HT_.out HW_.out hHeld rfl rfl ?_
   refine one_ (i := 2) (N := some 5) #[true, true, true, true, true, false, false, false, false, false, false, false, false, false] rfl rfl (one_of HT_.out (by kernel_rfl)) (by decide) (fun K hK => ?_)
   refine goesq Tryd.func51 #[.string a0_1] (by rfl) rfl rfl ?_
   with_reducible refine (natural_Normalize.calls k a0_1 t280 _ A4.out).mono ?_
   rintro e w11 ⟨rfl, hb⟩
   refine ⟨_, rfl, ?_⟩
   have n0_ := aM (blk_below (kU BK279.out) hb)
   have n1_ := aM (below_step (bU HB.out) hb)
   clear BK279
   clear HB
   have BK279 := n0_
   have HB := n1_
   clear n0_ n1_
   (try clear hb)
   (try clear hb2)
   (try clear hk)
   (try clear hi)
   refine hK.out _ _ ⟨(blk_cell BK279.out 0).trans rfl, (blk_cell BK279.out 1).trans rfl, (blk_cell BK279.out 2).trans rfl⟩ (fun hHeld => ?_)
   clear hK K
   refine norm_ (a' := ?_) ?_ ?_
   rotate_left
   ·show Act.put _ (some 5) _ = _
    simp only [Act.put, sTA, sC0, sCS, i64_w, i32_w]
    rfl
   refine pureq (i := 5) (N := some 8) HT_.out rfl rfl ?_
   refine pureq (i := 6) (N := some 9) HT_.out rfl rfl ?_
   refine pure_ (i := 7) (N := some 10) (v := undef) (a' := ?_) #[true, true, true, true, true, true, true, true, false, false, false, false, false, false] rfl rfl (any_of HT_.out (by kernel_rfl)) (fun _ _ _ h => h) (Or.inr ⟨by rfl, rfl⟩) ?_ ?_
   rotate_left
   ·simp only [Act.put, sTA, sC0, sCS, i64_w, i32_w]
    rfl
   refine pure_ (i := 8) (N := some 11) (v := undef) (a' := ?_) #[true, true, true, true, true, true, true, true, true, false, false, false, false, false] rfl rfl (any_of HT_.out (by kernel_rfl)) (fun _ _ _ h => h) (Or.inr ⟨by rfl, rfl⟩) ?_ ?_
   rotate_left
   ·simp only [Act.put, sTA, sC0, sCS, i64_w, i32_w]
    rfl
   refine pure_ (i := 9) (N := some 12) (v := undef) (a' := ?_) #[true, true, true, true, true, true, true, true, true, true, false, false, false, false] rfl rfl (any_of HT_.out (by kernel_rfl)) (fun _ _ _ h => h) (Or.inr ⟨by rfl, rfl⟩) ?_ ?_
   rotate_left
   ·simp only [Act.put, sTA, sC0, sCS, i64_w, i32_w]
    rfl
   refine pure_ (i := 10) (N := some 13) (v := undef) (a' := ?_) #[true, true, true, true, true, true, true, true, true, true, true, false, false, false] rfl rfl (any_of HT_.out (by kernel_rfl)) (fun _ _ _ h => h) (Or.inr ⟨by rfl, rfl⟩) ?_ ?_
   rotate_left
   ·simp only [Act.put, sTA, sC0, sCS, i64_w, i32_w]
    rfl
   refine pure_ (i := 11) (N := some 14) (v := undef) (a' := ?_) #[true, true, true, true, true, true, true, true, true, true, true, true, false, false] rfl rfl (any_of HT_.out (by kernel_rfl)) (fun _ _ _ h => h) (Or.inr ⟨by rfl, rfl⟩) ?_ ?_
   rotate_left
   ·simp only [Act.put, sTA, sC0, sCS, i64_w, i32_w]
    rfl
   refine pure_ (i := 12) (N := some 15) (v := undef) (a' := ?_) #[true, true, true, true, true, true, true, true, true, true, true, true, true, false] rfl rfl (any_of HT_.out (by kernel_rfl)) (fun _ _ _ h => h) (Or.inr ⟨by rfl, rfl⟩) ?_ ?_
   rotate_left
   ·simp only [Act.put, sTA, sC0, sCS, i64_w, i32_w]
    rfl
   refine pureq (i := 13) (N := some 16) HT_.out rfl rfl ?_
   refine done_ (done_of HT_.out (by kernel_rfl)) ?_
   try go_wp2
   go_meet
   case rel => exact ⟨_, (true), (by first | rfl | (simp; done) | (simp [*]; done)), H', ⟨by first | omega | exact Nat.le_refl _⟩, ⟨kU BK279.out⟩, ⟨bU HB.out⟩⟩
 case rest =>
  clear HC2
  (try clear p2); (try clear c5); (try clear c5b0); (try clear c5b1)
  obtain ⟨kq, x16_1, rfl, HA, HJ1, BK279, HB⟩ := hcut
  cases kq with
  | zero => exact absurd HA.out (by simp [rational_Valid.j0])
  | succ kj1 =>
   have H := HA.out
   clear HA
   simp only [rational_Valid.j0] at H
   by_cases c12 : x16_1 = true
   ·subst c12
    have H1 : (some false) = some r := by rw [if_pos rfl] at H; exact H
    clear H
    have H := H1
    clear H1
    obtain rfl := Option.some.inj H
    go_wp2
    go_ret
    exact ⟨by first | rfl | (simp [errW_none, errW_some] <;> rfl) | (simp [*, errW_none, errW_some] <;> rfl), bU HB.out⟩
   ·replace c12 := Bool.eq_false_iff.mpr c12
    subst c12
    have H1 : (if a0_1.toList = ([] : List UInt8) then (if a0_0 = true then (some false) else (some (a0_2.toList == ([] : List UInt8)))) else (if a0_2.toList = ([] : List UInt8) then (some true) else (if a0_2.toList = ([1] : List UInt8) then (some false) else ((natural_GCD.f kj1 a0_1 a0_2).bind fun t282 => (some (t282.toList == ([1] : List UInt8))))))) = some r := by rw [if_neg (show ¬ (false = true) by decide)] at H; exact H
    clear H
    have H := H1
    clear H1
    by_cases c13 : a0_1.toList = ([] : List UInt8)
    ·rw [if_pos c13] at H
     have c13b0 : (a0_1.toList == ([] : List UInt8)) = true := beq_iff_eq.mpr c13
     have c13b1 : (a0_1.toList != ([] : List UInt8)) = false := bne_eq_false_iff_eq.mpr c13
     clear c13
     by_cases c14 : a0_0 = true
     ·subst c14
      have H1 : (some false) = some r := by rw [if_pos rfl] at H; exact H
      clear H
      have H := H1
      clear H1
      obtain rfl := Option.some.inj H
      obtain ⟨hcz15_0, hcz15_1, hcz15_2, hfz15_0, hfz15_1, hfz15_2⟩ := cz3 BK279.out
      go_wp2
      go_ret
      exact ⟨by first | rfl | (simp [errW_none, errW_some] <;> rfl) | (simp [*, errW_none, errW_some] <;> rfl), bU HB.out⟩
     ·replace c14 := Bool.eq_false_iff.mpr c14
      subst c14
      have H1 : (some (a0_2.toList == ([] : List UInt8))) = some r := by rw [if_neg (show ¬ (false = true) by decide)] at H; exact H
      clear H
      have H := H1
      clear H1
      obtain rfl := Option.some.inj H
      obtain ⟨hcz16_0, hcz16_1, hcz16_2, hfz16_0, hfz16_1, hfz16_2⟩ := cz3 BK279.out
      go_wp2
      go_ret
      exact ⟨by first | rfl | (simp [errW_none, errW_some] <;> rfl) | (simp [*, errW_none, errW_some] <;> rfl), bU HB.out⟩
    ·rw [if_neg c13] at H
     have c13b0 : (a0_1.toList == ([] : List UInt8)) = false := beq_eq_false_iff_ne.mpr c13
     have c13b1 : (a0_1.toList != ([] : List UInt8)) = true := bne_iff_ne.mpr c13
     by_cases c17 : a0_2.toList = ([] : List UInt8)
     ·rw [if_pos c17] at H
      have c17b0 : (a0_2.toList == ([] : List UInt8)) = true := beq_iff_eq.mpr c17
      have c17b1 : (a0_2.toList != ([] : List UInt8)) = false := bne_eq_false_iff_eq.mpr c17
      clear c17
      obtain rfl := Option.some.inj H
      obtain ⟨hcz18_0, hcz18_1, hcz18_2, hfz18_0, hfz18_1, hfz18_2⟩ := cz3 BK279.out
      go_wp2
      go_ret
      exact ⟨by first | rfl | (simp [errW_none, errW_some] <;> rfl) | (simp [*, errW_none, errW_some] <;> rfl), bU HB.out⟩
     ·rw [if_neg c17] at H
      have c17b0 : (a0_2.toList == ([] : List UInt8)) = false := beq_eq_false_iff_ne.mpr c17
      have c17b1 : (a0_2.toList != ([] : List UInt8)) = true := bne_iff_ne.mpr c17
      by_cases c19 : a0_2.toList = ([1] : List UInt8)
      ·rw [if_pos c19] at H
       have c19b0 : (a0_2.toList == ([1] : List UInt8)) = true := beq_iff_eq.mpr c19
       have c19b1 : (a0_2.toList != ([1] : List UInt8)) = false := bne_eq_false_iff_eq.mpr c19
       clear c19
       obtain rfl := Option.some.inj H
       obtain ⟨hcz20_0, hcz20_1, hcz20_2, hfz20_0, hfz20_1, hfz20_2⟩ := cz3 BK279.out
       go_wp2
       go_ret
       exact ⟨by first | rfl | (simp [errW_none, errW_some] <;> rfl) | (simp [*, errW_none, errW_some] <;> rfl), bU HB.out⟩
      ·rw [if_neg c19] at H
       have c19b0 : (a0_2.toList == ([1] : List UInt8)) = false := beq_eq_false_iff_ne.mpr c19
       have c19b1 : (a0_2.toList != ([1] : List UInt8)) = true := bne_iff_ne.mpr c19
       replace H := bE H
       obtain ⟨t282, A210, H⟩ := H
       replace H : (some (t282.toList == ([1] : List UInt8))) = some r := H
       have A21 := Aside0.mk A210
       clear A210
       obtain rfl := Option.some.inj H
       obtain ⟨hcz22_0, hcz22_1, hcz22_2, hfz22_0, hfz22_1, hfz22_2⟩ := cz3 BK279.out
       go_wp2_with (first | (go_at_call 58; (with_reducible refine (natural_GCD.calls kj1 a0_1 a0_2 t282 _ A21.out).mono ?_); rintro e w23 ⟨rfl, hb⟩; have n0_ := aM (blk_below (kU BK279.out) hb); have n1_ := aM (below_step (bU HB.out) hb); clear BK279; clear HB; have BK279 := n0_; have HB := n1_; clear n0_ n1_; (try clear hb); (try clear hb2); (try clear hk); (try clear hi)))
       go_ret
       exact ⟨by first | rfl | (simp [errW_none, errW_some] <;> rfl) | (simp [*, errW_none, errW_some] <;> rfl), bU HB.out⟩

/-! ### rational_clean: function 32 -/
def rational_clean.f (k : Nat) (a0_0 : Bool) (a0_1 : ByteArray) (a0_2 : ByteArray) : Option (Bool × ByteArray × ByteArray) := (rational_Valid.f k a0_0 a0_1 a0_2).bind fun t285 => (if t285 = true then (some (a0_0, a0_1, a0_2)) else (some (false, (⟨#[]⟩ : ByteArray), (⟨#[]⟩ : ByteArray))))
theorem rational_clean.mono : ∀ a0 a1 a2 k, LeO (rational_clean.f k a0 a1 a2) (rational_clean.f (k + 1) a0 a1 a2) := by
 intro a0 a1 a2 k
 unfold rational_clean.f
 repeat' first
   | (with_reducible exact rational_Valid.mono _ _ _ _)
   | (with_reducible exact LeO.refl _)
   | (with_reducible exact LeO.none _)
   | (with_reducible refine LeO.ite ?_ ?_)
   | (with_reducible refine LeO.bind ?_ (fun _ => ?_))
   | exact LeO.none _
   | refine LeO.ite ?_ ?_
   | refine LeO.bind ?_ (fun _ => ?_)
set_option maxHeartbeats 8000000 in
set_option maxRecDepth 100000 in
theorem rational_clean.calls (k : Nat) (a0_0 : Bool) (a0_1 : ByteArray) (a0_2 : ByteArray) (r1 : Bool) (r2 : ByteArray) (r3 : ByteArray) (w : World) (h : rational_clean.f k a0_0 a0_1 a0_2 = some (r1, r2, r3)) :
  Calls Tryd.prog 32 #[.agg #[.bool a0_0, .string a0_1, .string a0_2]] w fun e w' => e = .returned (.agg #[.bool r1, .string r2, .string r3]) ∧ Below w.heap.size w w' := by
 have hu33 := Tryd.underlying33
 have HB := aM (Below.refl w.heap.size w)
 have H : ((rational_Valid.f k a0_0 a0_1 a0_2).bind fun t285 => (if t285 = true then (some (a0_0, a0_1, a0_2)) else (some (false, (⟨#[]⟩ : ByteArray), (⟨#[]⟩ : ByteArray))))) = some (r1, r2, r3) := h
 clear h
 replace H := bE H
 obtain ⟨t285, A20, H⟩ := H
 replace H : (if t285 = true then (some (a0_0, a0_1, a0_2)) else (some (false, (⟨#[]⟩ : ByteArray), (⟨#[]⟩ : ByteArray)))) = some (r1, r2, r3) := H
 have A2 := Aside0.mk A20
 clear A20
 by_cases c3 : t285 = true
 ·subst c3
  have H1 : (some (a0_0, a0_1, a0_2)) = some (r1, r2, r3) := by rw [if_pos rfl] at H; exact H
  clear H
  have H := H1
  clear H1
  simp only [Option.some.injEq, Prod.mk.injEq] at H
  obtain ⟨rfl, rfl, rfl⟩ := H
  go_enter Tryd.func32, Tryd.ntmps32
  go_wp2_with (first | ((with_reducible refine gate_dst (N := 1) rfl ?_); refine box_event ?hg (N := 1) ?hd (cs := #[.bool a0_0, .string a0_1, .string a0_2]) (t := 33) ?hr ?_; (case hd => rfl); (case hg => rfl); (case hr => first | (go_simp; done) | (go_simp; rfl)); intro gb283 hg w4 hbox hb; have n0_ := aM (below_step (bU HB.out) hb); have n1_ := aM (hbox); have n2_ := aM ((by rw [hg]; exact (below_size (bU HB.out)) : w.heap.size ≤ gb283)); have n3_ := aM ((by rw [hg]; exact (below_size (bU HB.out)) : w.heap.size ≤ gb283)); clear HB; have HB := n0_; have BK283 := n1_; have GW283 := n2_; have GE283 := n3_; clear n0_ n1_ n2_ n3_; clear hb hbox hg) | ((with_reducible refine gate_dst (N := 2) rfl ?_); refine box_event ?hg (N := 2) ?hd (cs := #[.bool false, .string (⟨#[]⟩ : ByteArray), .string (⟨#[]⟩ : ByteArray)]) (t := 33) ?hr ?_; (case hd => rfl); (case hg => rfl); (case hr => first | (go_simp; done) | (go_simp; rfl)); intro gb284 hg w5 hbox hb; have n0_ := aM (blk_below (kU BK283.out) hb); have n1_ := aM (below_step (bU HB.out) hb); have n2_ := aM (hbox); have n3_ := aM ((by rw [hg]; exact (below_size (bU HB.out)) : w.heap.size ≤ gb284)); have n4_ := aM ((by rw [hg]; exact (below_size (bU HB.out)) : w.heap.size ≤ gb284)); have n5_ := aM ((by rw [hg]; exact Nat.ne_of_lt (blk_lt (kU BK283.out)) : gb283 ≠ gb284)); have n6_ := aM ((by rw [hg]; exact Nat.ne_of_gt (blk_lt (kU BK283.out)) : gb284 ≠ gb283)); clear BK283; clear HB; have BK283 := n0_; have HB := n1_; have BK284 := n2_; have GW284 := n3_; have GE284 := n4_; have NB283_284 := n5_; have NB284_283 := n6_; clear n0_ n1_ n2_ n3_ n4_ n5_ n6_; clear hb hbox hg; have hnb6 := NB283_284.out; have hnc6 := NB284_283.out; obtain ⟨hcz7_0, hcz7_1, hcz7_2, hfz7_0, hfz7_1, hfz7_2⟩ := cz3 BK283.out) | ((with_reducible refine gate_callee (f := 50) rfl ?_); refine goesLq (some 4) rfl rfl Tryd.func50 #[.agg #[.bool a0_0, .string a0_1, .string a0_2]] rfl ?_; (with_reducible refine (rational_Valid.calls k a0_0 a0_1 a0_2 true _ A2.out).mono ?_); rintro e w8 ⟨rfl, hb⟩; refine ⟨_, rfl, ?_⟩; have n0_ := aM (blk_below (kU BK283.out) hb); have n1_ := aM (blk_below (kU BK284.out) hb); have n2_ := aM (below_step (bU HB.out) hb); clear BK283; clear BK284; clear HB; have BK283 := n0_; have BK284 := n1_; have HB := n2_; clear n0_ n1_ n2_; (try clear hb); (try clear hb2); (try clear hk); (try clear hi); obtain ⟨hcz9_0, hcz9_1, hcz9_2, hfz9_0, hfz9_1, hfz9_2⟩ := cz3 BK283.out; obtain ⟨hcz10_0, hcz10_1, hcz10_2, hfz10_0, hfz10_1, hfz10_2⟩ := cz3 BK284.out))
  refine bodyPost_ret (results_cell_row rfl _ _ gb284 33 #[.bool a0_0, .string a0_1, .string a0_2] (0, 0) _ rfl (kP BK284.out) Tryd.underlying33 rfl (by kernel_rfl)) rfl ?_
  exact ⟨by first | rfl | (simp [errW_none, errW_some] <;> rfl) | (simp [*, errW_none, errW_some] <;> rfl), bU HB.out⟩
 ·replace c3 := Bool.eq_false_iff.mpr c3
  subst c3
  have H1 : (some (false, (⟨#[]⟩ : ByteArray), (⟨#[]⟩ : ByteArray))) = some (r1, r2, r3) := by rw [if_neg (show ¬ (false = true) by decide)] at H; exact H
  clear H
  have H := H1
  clear H1
  simp only [Option.some.injEq, Prod.mk.injEq] at H
  obtain ⟨rfl, rfl, rfl⟩ := H
  go_enter Tryd.func32, Tryd.ntmps32
  go_wp2_with (first | ((with_reducible refine gate_dst (N := 1) rfl ?_); refine box_event ?hg (N := 1) ?hd (cs := #[.bool a0_0, .string a0_1, .string a0_2]) (t := 33) ?hr ?_; (case hd => rfl); (case hg => rfl); (case hr => first | (go_simp; done) | (go_simp; rfl)); intro gb283 hg w11 hbox hb; have n0_ := aM (below_step (bU HB.out) hb); have n1_ := aM (hbox); have n2_ := aM ((by rw [hg]; exact (below_size (bU HB.out)) : w.heap.size ≤ gb283)); have n3_ := aM ((by rw [hg]; exact (below_size (bU HB.out)) : w.heap.size ≤ gb283)); clear HB; have HB := n0_; have BK283 := n1_; have GW283 := n2_; have GE283 := n3_; clear n0_ n1_ n2_ n3_; clear hb hbox hg) | ((with_reducible refine gate_dst (N := 2) rfl ?_); refine box_event ?hg (N := 2) ?hd (cs := #[.bool false, .string (⟨#[]⟩ : ByteArray), .string (⟨#[]⟩ : ByteArray)]) (t := 33) ?hr ?_; (case hd => rfl); (case hg => rfl); (case hr => first | (go_simp; done) | (go_simp; rfl)); intro gb284 hg w12 hbox hb; have n0_ := aM (blk_below (kU BK283.out) hb); have n1_ := aM (below_step (bU HB.out) hb); have n2_ := aM (hbox); have n3_ := aM ((by rw [hg]; exact (below_size (bU HB.out)) : w.heap.size ≤ gb284)); have n4_ := aM ((by rw [hg]; exact (below_size (bU HB.out)) : w.heap.size ≤ gb284)); have n5_ := aM ((by rw [hg]; exact Nat.ne_of_lt (blk_lt (kU BK283.out)) : gb283 ≠ gb284)); have n6_ := aM ((by rw [hg]; exact Nat.ne_of_gt (blk_lt (kU BK283.out)) : gb284 ≠ gb283)); clear BK283; clear HB; have BK283 := n0_; have HB := n1_; have BK284 := n2_; have GW284 := n3_; have GE284 := n4_; have NB283_284 := n5_; have NB284_283 := n6_; clear n0_ n1_ n2_ n3_ n4_ n5_ n6_; clear hb hbox hg; have hnb13 := NB283_284.out; have hnc13 := NB284_283.out; obtain ⟨hcz14_0, hcz14_1, hcz14_2, hfz14_0, hfz14_1, hfz14_2⟩ := cz3 BK283.out) | ((with_reducible refine gate_callee (f := 50) rfl ?_); refine goesLq (some 4) rfl rfl Tryd.func50 #[.agg #[.bool a0_0, .string a0_1, .string a0_2]] rfl ?_; (with_reducible refine (rational_Valid.calls k a0_0 a0_1 a0_2 false _ A2.out).mono ?_); rintro e w15 ⟨rfl, hb⟩; refine ⟨_, rfl, ?_⟩; have n0_ := aM (blk_below (kU BK283.out) hb); have n1_ := aM (blk_below (kU BK284.out) hb); have n2_ := aM (below_step (bU HB.out) hb); clear BK283; clear BK284; clear HB; have BK283 := n0_; have BK284 := n1_; have HB := n2_; clear n0_ n1_ n2_; (try clear hb); (try clear hb2); (try clear hk); (try clear hi); obtain ⟨hcz16_0, hcz16_1, hcz16_2, hfz16_0, hfz16_1, hfz16_2⟩ := cz3 BK284.out))
  refine bodyPost_ret (results_cell_row rfl _ _ gb284 33 #[.bool false, .string (⟨#[]⟩ : ByteArray), .string (⟨#[]⟩ : ByteArray)] (0, 0) _ rfl (kP BK284.out) Tryd.underlying33 rfl (by kernel_rfl)) rfl ?_
  exact ⟨by first | rfl | (simp [errW_none, errW_some] <;> rfl) | (simp [*, errW_none, errW_some] <;> rfl), bU HB.out⟩

/-! ### rational_signOf: function 33 -/
def rational_signOf.f (a0_0 : Bool) (a0_1 : ByteArray) (a0_2 : ByteArray) : Option (Int) := if a0_1.toList = ([] : List UInt8) then (some 0) else (if a0_0 = true then (some (-1)) else (some 1))
set_option maxHeartbeats 8000000 in
set_option maxRecDepth 100000 in
theorem rational_signOf.calls (a0_0 : Bool) (a0_1 : ByteArray) (a0_2 : ByteArray) (r : Int) (w : World) (h : rational_signOf.f a0_0 a0_1 a0_2 = some r) :
  Calls Tryd.prog 33 #[.agg #[.bool a0_0, .string a0_1, .string a0_2]] w fun e w' => e = .returned (.int .i64 r) ∧ Below w.heap.size w w' := by
 have hu33 := Tryd.underlying33
 have HB := aM (Below.refl w.heap.size w)
 have H : (if a0_1.toList = ([] : List UInt8) then (some 0) else (if a0_0 = true then (some (-1)) else (some 1))) = some r := h
 clear h
 by_cases c2 : a0_1.toList = ([] : List UInt8)
 ·rw [if_pos c2] at H
  have c2b0 : (a0_1.toList == ([] : List UInt8)) = true := beq_iff_eq.mpr c2
  have c2b1 : (a0_1.toList != ([] : List UInt8)) = false := bne_eq_false_iff_eq.mpr c2
  clear c2
  obtain rfl := Option.some.inj H
  go_enter Tryd.func33, Tryd.ntmps33
  go_wp2_with (first | ((with_reducible refine gate_dst (N := 1) rfl ?_); refine box_event ?hg (N := 1) ?hd (cs := #[.bool a0_0, .string a0_1, .string a0_2]) (t := 33) ?hr ?_; (case hd => rfl); (case hg => rfl); (case hr => first | (go_simp; done) | (go_simp; rfl)); intro gb286 hg w3 hbox hb; have n0_ := aM (below_step (bU HB.out) hb); have n1_ := aM (hbox); have n2_ := aM ((by rw [hg]; exact (below_size (bU HB.out)) : w.heap.size ≤ gb286)); have n3_ := aM ((by rw [hg]; exact (below_size (bU HB.out)) : w.heap.size ≤ gb286)); clear HB; have HB := n0_; have BK286 := n1_; have GW286 := n2_; have GE286 := n3_; clear n0_ n1_ n2_ n3_; clear hb hbox hg; obtain ⟨hcz4_0, hcz4_1, hcz4_2, hfz4_0, hfz4_1, hfz4_2⟩ := cz3 BK286.out))
  go_ret
  exact ⟨by first | rfl | (simp [errW_none, errW_some] <;> rfl) | (simp [*, errW_none, errW_some] <;> rfl), bU HB.out⟩
 ·rw [if_neg c2] at H
  have c2b0 : (a0_1.toList == ([] : List UInt8)) = false := beq_eq_false_iff_ne.mpr c2
  have c2b1 : (a0_1.toList != ([] : List UInt8)) = true := bne_iff_ne.mpr c2
  by_cases c5 : a0_0 = true
  ·subst c5
   have H1 : (some (-1)) = some r := by rw [if_pos rfl] at H; exact H
   clear H
   have H := H1
   clear H1
   obtain rfl := Option.some.inj H
   go_enter Tryd.func33, Tryd.ntmps33
   go_wp2_with (first | ((with_reducible refine gate_dst (N := 1) rfl ?_); refine box_event ?hg (N := 1) ?hd (cs := #[.bool true, .string a0_1, .string a0_2]) (t := 33) ?hr ?_; (case hd => rfl); (case hg => rfl); (case hr => first | (go_simp; done) | (go_simp; rfl)); intro gb286 hg w6 hbox hb; have n0_ := aM (below_step (bU HB.out) hb); have n1_ := aM (hbox); have n2_ := aM ((by rw [hg]; exact (below_size (bU HB.out)) : w.heap.size ≤ gb286)); have n3_ := aM ((by rw [hg]; exact (below_size (bU HB.out)) : w.heap.size ≤ gb286)); clear HB; have HB := n0_; have BK286 := n1_; have GW286 := n2_; have GE286 := n3_; clear n0_ n1_ n2_ n3_; clear hb hbox hg; obtain ⟨hcz7_0, hcz7_1, hcz7_2, hfz7_0, hfz7_1, hfz7_2⟩ := cz3 BK286.out))
   go_ret
   exact ⟨by first | rfl | (simp [errW_none, errW_some] <;> rfl) | (simp [*, errW_none, errW_some] <;> rfl), bU HB.out⟩
  ·replace c5 := Bool.eq_false_iff.mpr c5
   subst c5
   have H1 : (some 1) = some r := by rw [if_neg (show ¬ (false = true) by decide)] at H; exact H
   clear H
   have H := H1
   clear H1
   obtain rfl := Option.some.inj H
   go_enter Tryd.func33, Tryd.ntmps33
   go_wp2_with (first | ((with_reducible refine gate_dst (N := 1) rfl ?_); refine box_event ?hg (N := 1) ?hd (cs := #[.bool false, .string a0_1, .string a0_2]) (t := 33) ?hr ?_; (case hd => rfl); (case hg => rfl); (case hr => first | (go_simp; done) | (go_simp; rfl)); intro gb286 hg w8 hbox hb; have n0_ := aM (below_step (bU HB.out) hb); have n1_ := aM (hbox); have n2_ := aM ((by rw [hg]; exact (below_size (bU HB.out)) : w.heap.size ≤ gb286)); have n3_ := aM ((by rw [hg]; exact (below_size (bU HB.out)) : w.heap.size ≤ gb286)); clear HB; have HB := n0_; have BK286 := n1_; have GW286 := n2_; have GE286 := n3_; clear n0_ n1_ n2_ n3_; clear hb hbox hg; obtain ⟨hcz9_0, hcz9_1, hcz9_2, hfz9_0, hfz9_1, hfz9_2⟩ := cz3 BK286.out))
   go_ret
   exact ⟨by first | rfl | (simp [errW_none, errW_some] <;> rfl) | (simp [*, errW_none, errW_some] <;> rfl), bU HB.out⟩

-- NOT PRINTED: function 89 (bytealg_abigen_runtime_cmpstring)


/-! ### bytealg_CompareString: function 73 -/
def bytealg_CompareString.f (a0 a1 : ByteArray) : Option (Int) := some (Lib.compareBytes a0.data.toList a1.data.toList)
set_option maxRecDepth 100000 in
theorem bytealg_CompareString.calls (a0 : ByteArray) (a1 : ByteArray) (r : Int) (w : World) (h : bytealg_CompareString.f a0 a1 = some r) :
  Calls Tryd.prog 73 #[.string a0, .string a1] w fun e w' => e = .returned (.int .i64 r) ∧ Drawn0 w w' := by
 obtain rfl := Option.some.inj h
 go_enter Tryd.func73, Tryd.ntmps73
 go_wp2
 rw [run_callFunc_extern Tryd.func89 (by kernel_rfl) (by kernel_rfl) (by kernel_rfl) (e := Extern.BytealgCompare.compare) (by kernel_rfl), Lib.run_compareString]
 simp only [Result.andThen]
 rw [Oper.upon_value]
 go_wp2
 go_ret
 exact ⟨rfl, Drawn0.refl _⟩

/-! ### strings_Compare: function 53 -/
def strings_Compare.f (a0 : ByteArray) (a1 : ByteArray) : Option (Int) := (bytealg_CompareString.f a0 a1).bind fun t287 => (some t287)
set_option maxHeartbeats 8000000 in
set_option maxRecDepth 100000 in
theorem strings_Compare.calls (a0 : ByteArray) (a1 : ByteArray) (r : Int) (w : World) (h : strings_Compare.f a0 a1 = some r) :
  Calls Tryd.prog 53 #[.string a0, .string a1] w fun e w' => e = .returned (.int .i64 r) ∧ Drawn0 w w' := by
 have H : ((bytealg_CompareString.f a0 a1).bind fun t287 => (some t287)) = some r := h
 clear h
 replace H := bE H
 obtain ⟨t287, A30, H⟩ := H
 replace H : (some t287) = some r := H
 have A3 := Aside0.mk A30
 clear A30
 obtain rfl := Option.some.inj H
 go_enter Tryd.func53, Tryd.ntmps53
 go_wp2_with (first | ((with_reducible refine gate_callee (f := 73) rfl ?_); refine goesLq (some 7) rfl rfl Tryd.func73 #[.string a0, .string a1] rfl ?_; (with_reducible refine (bytealg_CompareString.calls a0 a1 t287 _ A3.out).mono ?_); rintro e w' ⟨rfl, ⟨nd, rfl⟩⟩; refine ⟨_, rfl, ?_⟩))
 go_ret
 exact ⟨by first | rfl | (simp; done) | (simp [*]; done), by repeat (first | exact Drawn0.refl _ | apply Drawn0.step)⟩

/-! ### natural_Compare: function 34 -/
def natural_Compare.f (k : Nat) (a0 : ByteArray) (a1 : ByteArray) : Option (Int) := (natural_Normalize.f k a0).bind fun t288 => ((natural_Normalize.f k a1).bind fun t289 => (if (t288.size : Int) = (t289.size : Int) then ((strings_Compare.f t288 t289).bind fun t290 => (some t290)) else ((natural_sign.f (wrap64 ((t288.size : Int) - (t289.size : Int)))).bind fun t291 => (some t291))))
theorem natural_Compare.mono : ∀ a0 a1 k, LeO (natural_Compare.f k a0 a1) (natural_Compare.f (k + 1) a0 a1) := by
 intro a0 a1 k
 unfold natural_Compare.f
 repeat' first
   | (with_reducible exact natural_Normalize.mono _ _)
   | (with_reducible exact LeO.refl _)
   | (with_reducible exact LeO.none _)
   | (with_reducible refine LeO.ite ?_ ?_)
   | (with_reducible refine LeO.bind ?_ (fun _ => ?_))
   | exact LeO.none _
   | refine LeO.ite ?_ ?_
   | refine LeO.bind ?_ (fun _ => ?_)
set_option maxHeartbeats 8000000 in
set_option maxRecDepth 100000 in
theorem natural_Compare.calls (k : Nat) (a0 : ByteArray) (a1 : ByteArray) (r : Int) (w : World) (h : natural_Compare.f k a0 a1 = some r) :
  Calls Tryd.prog 34 #[.string a0, .string a1] w fun e w' => e = .returned (.int .i64 r) ∧ Below w.heap.size w w' := by
 have HB := aM (Below.refl w.heap.size w)
 have H : ((natural_Normalize.f k a0).bind fun t288 => ((natural_Normalize.f k a1).bind fun t289 => (if (t288.size : Int) = (t289.size : Int) then ((strings_Compare.f t288 t289).bind fun t290 => (some t290)) else ((natural_sign.f (wrap64 ((t288.size : Int) - (t289.size : Int)))).bind fun t291 => (some t291))))) = some r := h
 clear h
 replace H := bE H
 obtain ⟨t288, A30, H⟩ := H
 replace H : ((natural_Normalize.f k a1).bind fun t289 => (if (t288.size : Int) = (t289.size : Int) then ((strings_Compare.f t288 t289).bind fun t290 => (some t290)) else ((natural_sign.f (wrap64 ((t288.size : Int) - (t289.size : Int)))).bind fun t291 => (some t291)))) = some r := H
 have A3 := Aside0.mk A30
 clear A30
 replace H := bE H
 obtain ⟨t289, A40, H⟩ := H
 replace H : (if (t288.size : Int) = (t289.size : Int) then ((strings_Compare.f t288 t289).bind fun t290 => (some t290)) else ((natural_sign.f (wrap64 ((t288.size : Int) - (t289.size : Int)))).bind fun t291 => (some t291))) = some r := H
 have A4 := Aside0.mk A40
 clear A40
 by_cases c5 : (t288.size : Int) = (t289.size : Int)
 ·rw [if_pos c5] at H
  have c5b0 : ((t288.size : Int) == (t289.size : Int)) = true := beq_iff_eq.mpr c5
  have c5b1 : ((t288.size : Int) != (t289.size : Int)) = false := bne_eq_false_iff_eq.mpr c5
  have c5b2 : (t288.size == t289.size) = true := by first | simpa using c5 | (simp at c5 ⊢; omega)
  clear c5
  replace H := bE H
  obtain ⟨t290, A60, H⟩ := H
  replace H : (some t290) = some r := H
  have A6 := Aside0.mk A60
  clear A60
  obtain rfl := Option.some.inj H
  go_enter Tryd.func34, Tryd.ntmps34
  go_wp2_with (first | ((with_reducible refine gate_callee (f := 51) rfl ?_); refine goesLq (some 6) rfl rfl Tryd.func51 #[.string a0] rfl ?_; (with_reducible refine (natural_Normalize.calls k a0 t288 _ A3.out).mono ?_); rintro e w7 ⟨rfl, hb⟩; refine ⟨_, rfl, ?_⟩; have n0_ := aM (below_step (bU HB.out) hb); clear HB; have HB := n0_; clear n0_; (try clear hb); (try clear hb2); (try clear hk); (try clear hi)) | ((with_reducible refine gate_callee (f := 51) rfl ?_); refine goesLq (some 8) rfl rfl Tryd.func51 #[.string a1] rfl ?_; (with_reducible refine (natural_Normalize.calls k a1 t289 _ A4.out).mono ?_); rintro e w8 ⟨rfl, hb⟩; refine ⟨_, rfl, ?_⟩; have n0_ := aM (below_step (bU HB.out) hb); clear HB; have HB := n0_; clear n0_; (try clear hb); (try clear hb2); (try clear hk); (try clear hi)) | ((with_reducible refine gate_callee (f := 53) rfl ?_); refine goesLq (some 22) rfl rfl Tryd.func53 #[.string t288, .string t289] rfl ?_; (with_reducible refine (strings_Compare.calls t288 t289 t290 _ A6.out).mono ?_); rintro e w' ⟨rfl, ⟨nd, rfl⟩⟩; refine ⟨_, rfl, ?_⟩))
  go_ret
  exact ⟨by first | rfl | (simp [errW_none, errW_some] <;> rfl) | (simp [*, errW_none, errW_some] <;> rfl), bU HB.out⟩
 ·rw [if_neg c5] at H
  have c5b0 : ((t288.size : Int) == (t289.size : Int)) = false := beq_eq_false_iff_ne.mpr c5
  have c5b1 : ((t288.size : Int) != (t289.size : Int)) = true := bne_iff_ne.mpr c5
  have c5b2 : (t288.size == t289.size) = false := by first | simpa using c5 | (simp at c5 ⊢; omega)
  replace H := bE H
  obtain ⟨t291, A90, H⟩ := H
  replace H : (some t291) = some r := H
  have A9 := Aside0.mk A90
  clear A90
  obtain rfl := Option.some.inj H
  go_enter Tryd.func34, Tryd.ntmps34
  go_wp2_with (first | ((with_reducible refine gate_callee (f := 51) rfl ?_); refine goesLq (some 6) rfl rfl Tryd.func51 #[.string a0] rfl ?_; (with_reducible refine (natural_Normalize.calls k a0 t288 _ A3.out).mono ?_); rintro e w10 ⟨rfl, hb⟩; refine ⟨_, rfl, ?_⟩; have n0_ := aM (below_step (bU HB.out) hb); clear HB; have HB := n0_; clear n0_; (try clear hb); (try clear hb2); (try clear hk); (try clear hi)) | ((with_reducible refine gate_callee (f := 51) rfl ?_); refine goesLq (some 8) rfl rfl Tryd.func51 #[.string a1] rfl ?_; (with_reducible refine (natural_Normalize.calls k a1 t289 _ A4.out).mono ?_); rintro e w11 ⟨rfl, hb⟩; refine ⟨_, rfl, ?_⟩; have n0_ := aM (below_step (bU HB.out) hb); clear HB; have HB := n0_; clear n0_; (try clear hb); (try clear hb2); (try clear hk); (try clear hi)) | ((with_reducible refine gate_callee (f := 52) rfl ?_); refine goesLq (some 19) rfl rfl Tryd.func52 #[.int .i64 (wrap64 ((t288.size : Int) - (t289.size : Int)))] rfl ?_; (with_reducible refine (natural_sign.calls (wrap64 ((t288.size : Int) - (t289.size : Int))) t291 _ A9.out).mono ?_); rintro e w' ⟨rfl, ⟨nd, rfl⟩⟩; refine ⟨_, rfl, ?_⟩))
  go_ret
  exact ⟨by first | rfl | (simp [errW_none, errW_some] <;> rfl) | (simp [*, errW_none, errW_some] <;> rfl), bU HB.out⟩

end Go.Proofs.YtjeamaahhpbbkaaDoor.PAll
