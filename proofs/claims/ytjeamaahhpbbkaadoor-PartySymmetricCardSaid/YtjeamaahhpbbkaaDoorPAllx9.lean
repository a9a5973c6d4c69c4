-- PRINTED by a session's own changed print
import Derived.Test.YtjeamaahhpbbkaaDoorPAllx0
import Derived.Test.YtjeamaahhpbbkaaDoorPAllx4
import Derived.Test.YtjeamaahhpbbkaaDoorPAllx5
import Derived.Test.YtjeamaahhpbbkaaDoorPAllx8
namespace Go.Proofs.YtjeamaahhpbbkaaDoor.PAll
open Go.RowKit Go.Proofs.YtjeamaahhpbbkaaDoorW.PrintWords Go.Proofs.YtjeamaahhpbbkaaDoorW.PrintLast
set_option linter.unusedVariables false
set_option linter.unusedSimpArgs false

/-! ### rational_reduced: function 39 -/
def rational_reduced.f (k : Nat) (a0 : Bool) (a1 : ByteArray) (a2 : ByteArray) : Option (Bool × ByteArray × ByteArray) := (natural_Normalize.f k a1).bind fun t344 => ((natural_Normalize.f k a2).bind fun t345 => (if t344.toList = ([] : List UInt8) then (some (false, (⟨#[]⟩ : ByteArray), (⟨#[]⟩ : ByteArray))) else (if t345.toList = ([1] : List UInt8) then (some (a0, t344, (⟨#[]⟩ : ByteArray))) else ((natural_GCD.f k t344 t345).bind fun t346 => (if t346.toList = ([1] : List UInt8) then (some (a0, t344, t345)) else ((natural_Divide.f k t344 t346).bind fun bt347 => ((natural_Divide.f k t345 t346).bind fun bt350 => (if bt350.1.toList = ([1] : List UInt8) then (some (a0, bt347.1, (⟨#[]⟩ : ByteArray))) else (some (a0, bt347.1, bt350.1))))))))))
theorem rational_reduced.mono : ∀ a0 a1 a2 k, LeO (rational_reduced.f k a0 a1 a2) (rational_reduced.f (k + 1) a0 a1 a2) := by
 intro a0 a1 a2 k
 unfold rational_reduced.f
 repeat' first
   | (with_reducible exact natural_Divide.mono _ _ _)
   | (with_reducible exact natural_GCD.mono _ _ _)
   | (with_reducible exact natural_Normalize.mono _ _)
   | (with_reducible exact LeO.refl _)
   | (with_reducible exact LeO.none _)
   | (with_reducible refine LeO.ite ?_ ?_)
   | (with_reducible refine LeO.bind ?_ (fun _ => ?_))
   | exact LeO.none _
   | refine LeO.ite ?_ ?_
   | refine LeO.bind ?_ (fun _ => ?_)
set_option maxHeartbeats 8000000 in
set_option maxRecDepth 100000 in
theorem rational_reduced.calls (k : Nat) (a0 : Bool) (a1 : ByteArray) (a2 : ByteArray) (r1 : Bool) (r2 : ByteArray) (r3 : ByteArray) (w : World) (h : rational_reduced.f k a0 a1 a2 = some (r1, r2, r3)) :
  Calls Tryd.prog 39 #[.bool a0, .string a1, .string a2] w fun e w' => e = .returned (.agg #[.bool r1, .string r2, .string r3]) ∧ Below w.heap.size w w' := by
 have hu33 := Tryd.underlying33
 have HB := aM (Below.refl w.heap.size w)
 have H : ((natural_Normalize.f k a1).bind fun t344 => ((natural_Normalize.f k a2).bind fun t345 => (if t344.toList = ([] : List UInt8) then (some (false, (⟨#[]⟩ : ByteArray), (⟨#[]⟩ : ByteArray))) else (if t345.toList = ([1] : List UInt8) then (some (a0, t344, (⟨#[]⟩ : ByteArray))) else ((natural_GCD.f k t344 t345).bind fun t346 => (if t346.toList = ([1] : List UInt8) then (some (a0, t344, t345)) else ((natural_Divide.f k t344 t346).bind fun bt347 => ((natural_Divide.f k t345 t346).bind fun bt350 => (if bt350.1.toList = ([1] : List UInt8) then (some (a0, bt347.1, (⟨#[]⟩ : ByteArray))) else (some (a0, bt347.1, bt350.1))))))))))) = some (r1, r2, r3) := h
 clear h
 replace H := bE H
 obtain ⟨t344, A40, H⟩ := H
 replace H : ((natural_Normalize.f k a2).bind fun t345 => (if t344.toList = ([] : List UInt8) then (some (false, (⟨#[]⟩ : ByteArray), (⟨#[]⟩ : ByteArray))) else (if t345.toList = ([1] : List UInt8) then (some (a0, t344, (⟨#[]⟩ : ByteArray))) else ((natural_GCD.f k t344 t345).bind fun t346 => (if t346.toList = ([1] : List UInt8) then (some (a0, t344, t345)) else ((natural_Divide.f k t344 t346).bind fun bt347 => ((natural_Divide.f k t345 t346).bind fun bt350 => (if bt350.1.toList = ([1] : List UInt8) then (some (a0, bt347.1, (⟨#[]⟩ : ByteArray))) else (some (a0, bt347.1, bt350.1)))))))))) = some (r1, r2, r3) := H
 have A4 := Aside0.mk A40
 clear A40
 replace H := bE H
 obtain ⟨t345, A50, H⟩ := H
 replace H : (if t344.toList = ([] : List UInt8) then (some (false, (⟨#[]⟩ : ByteArray), (⟨#[]⟩ : ByteArray))) else (if t345.toList = ([1] : List UInt8) then (some (a0, t344, (⟨#[]⟩ : ByteArray))) else ((natural_GCD.f k t344 t345).bind fun t346 => (if t346.toList = ([1] : List UInt8) then (some (a0, t344, t345)) else ((natural_Divide.f k t344 t346).bind fun bt347 => ((natural_Divide.f k t345 t346).bind fun bt350 => (if bt350.1.toList = ([1] : List UInt8) then (some (a0, bt347.1, (⟨#[]⟩ : ByteArray))) else (some (a0, bt347.1, bt350.1))))))))) = some (r1, r2, r3) := H
 have A5 := Aside0.mk A50
 clear A50
 by_cases c6 : t344.toList = ([] : List UInt8)
 ·rw [if_pos c6] at H
  have c6b0 : (t344.toList == ([] : List UInt8)) = true := beq_iff_eq.mpr c6
  have c6b1 : (t344.toList != ([] : List UInt8)) = false := bne_eq_false_iff_eq.mpr c6
  clear c6
  simp only [Option.some.injEq, Prod.mk.injEq] at H
  obtain ⟨rfl, rfl, rfl⟩ := H
  go_enter Tryd.func39, Tryd.ntmps39
  go_wp2_with (first | ((with_reducible refine gate_dst (N := 6) rfl ?_); refine box_event ?hg (N := 6) ?hd (cs := #[.bool false, .string (⟨#[]⟩ : ByteArray), .string (⟨#[]⟩ : ByteArray)]) (t := 33) ?hr ?_; (case hd => rfl); (case hg => rfl); (case hr => first | (go_simp; done) | (go_simp; rfl)); intro gb343 hg w7 hbox hb; have n0_ := aM (below_step (bU HB.out) hb); have n1_ := aM (hbox); have n2_ := aM ((by rw [hg]; exact (below_size (bU HB.out)) : w.heap.size ≤ gb343)); have n3_ := aM ((by rw [hg]; exact (below_size (bU HB.out)) : w.heap.size ≤ gb343)); clear HB; have HB := n0_; have BK343 := n1_; have GW343 := n2_; have GE343 := n3_; clear n0_ n1_ n2_ n3_; clear hb hbox hg) | ((with_reducible refine gate_callee (f := 51) rfl ?_); refine goesLq (some 9) rfl rfl Tryd.func51 #[.string a1] rfl ?_; (with_reducible refine (natural_Normalize.calls k a1 t344 _ A4.out).mono ?_); rintro e w8 ⟨rfl, hb⟩; refine ⟨_, rfl, ?_⟩; have n0_ := aM (blk_below (kU BK343.out) hb); have n1_ := aM (below_step (bU HB.out) hb); clear BK343; clear HB; have BK343 := n0_; have HB := n1_; clear n0_ n1_; (try clear hb); (try clear hb2); (try clear hk); (try clear hi)) | ((with_reducible refine gate_callee (f := 51) rfl ?_); refine goesLq (some 11) rfl rfl Tryd.func51 #[.string a2] rfl ?_; (with_reducible refine (natural_Normalize.calls k a2 t345 _ A5.out).mono ?_); rintro e w9 ⟨rfl, hb⟩; refine ⟨_, rfl, ?_⟩; have n0_ := aM (blk_below (kU BK343.out) hb); have n1_ := aM (below_step (bU HB.out) hb); clear BK343; clear HB; have BK343 := n0_; have HB := n1_; clear n0_ n1_; (try clear hb); (try clear hb2); (try clear hk); (try clear hi); obtain ⟨hcz10_0, hcz10_1, hcz10_2, hfz10_0, hfz10_1, hfz10_2⟩ := cz3 BK343.out))
  refine bodyPost_ret (results_cell_row rfl _ _ gb343 33 #[.bool false, .string (⟨#[]⟩ : ByteArray), .string (⟨#[]⟩ : ByteArray)] (0, 0) _ rfl (kP BK343.out) Tryd.underlying33 rfl (by kernel_rfl)) rfl ?_
  exact ⟨by first | rfl | (simp [errW_none, errW_some] <;> rfl) | (simp [*, errW_none, errW_some] <;> rfl), bU HB.out⟩
 ·rw [if_neg c6] at H
  have c6b0 : (t344.toList == ([] : List UInt8)) = false := beq_eq_false_iff_ne.mpr c6
  have c6b1 : (t344.toList != ([] : List UInt8)) = true := bne_iff_ne.mpr c6
  by_cases c11 : t345.toList = ([1] : List UInt8)
  ·rw [if_pos c11] at H
   have c11b0 : (t345.toList == ([1] : List UInt8)) = true := beq_iff_eq.mpr c11
   have c11b1 : (t345.toList != ([1] : List UInt8)) = false := bne_eq_false_iff_eq.mpr c11
   clear c11
   simp only [Option.some.injEq, Prod.mk.injEq] at H
   obtain ⟨rfl, rfl, rfl⟩ := H
   go_enter Tryd.func39, Tryd.ntmps39
   go_wp2_with (first | ((with_reducible refine gate_dst (N := 6) rfl ?_); refine box_event ?hg (N := 6) ?hd (cs := #[.bool false, .string (⟨#[]⟩ : ByteArray), .string (⟨#[]⟩ : ByteArray)]) (t := 33) ?hr ?_; (case hd => rfl); (case hg => rfl); (case hr => first | (go_simp; done) | (go_simp; rfl)); intro gb343 hg w12 hbox hb; have n0_ := aM (below_step (bU HB.out) hb); have n1_ := aM (hbox); have n2_ := aM ((by rw [hg]; exact (below_size (bU HB.out)) : w.heap.size ≤ gb343)); have n3_ := aM ((by rw [hg]; exact (below_size (bU HB.out)) : w.heap.size ≤ gb343)); clear HB; have HB := n0_; have BK343 := n1_; have GW343 := n2_; have GE343 := n3_; clear n0_ n1_ n2_ n3_; clear hb hbox hg) | ((with_reducible refine gate_callee (f := 51) rfl ?_); refine goesLq (some 9) rfl rfl Tryd.func51 #[.string a1] rfl ?_; (with_reducible refine (natural_Normalize.calls k a1 t344 _ A4.out).mono ?_); rintro e w13 ⟨rfl, hb⟩; refine ⟨_, rfl, ?_⟩; have n0_ := aM (blk_below (kU BK343.out) hb); have n1_ := aM (below_step (bU HB.out) hb); clear BK343; clear HB; have BK343 := n0_; have HB := n1_; clear n0_ n1_; (try clear hb); (try clear hb2); (try clear hk); (try clear hi)) | ((with_reducible refine gate_callee (f := 51) rfl ?_); refine goesLq (some 11) rfl rfl Tryd.func51 #[.string a2] rfl ?_; (with_reducible refine (natural_Normalize.calls k a2 t345 _ A5.out).mono ?_); rintro e w14 ⟨rfl, hb⟩; refine ⟨_, rfl, ?_⟩; have n0_ := aM (blk_below (kU BK343.out) hb); have n1_ := aM (below_step (bU HB.out) hb); clear BK343; clear HB; have BK343 := n0_; have HB := n1_; clear n0_ n1_; (try clear hb); (try clear hb2); (try clear hk); (try clear hi); obtain ⟨hcz15_0, hcz15_1, hcz15_2, hfz15_0, hfz15_1, hfz15_2⟩ := cz3 BK343.out))
   refine bodyPost_ret (results_cell_row rfl _ _ gb343 33 #[.bool a0, .string t344, .string (⟨#[]⟩ : ByteArray)] (0, 0) _ rfl (kP BK343.out) Tryd.underlying33 rfl (by kernel_rfl)) rfl ?_
   exact ⟨by first | rfl | (simp [errW_none, errW_some] <;> rfl) | (simp [*, errW_none, errW_some] <;> rfl), bU HB.out⟩
  ·rw [if_neg c11] at H
   have c11b0 : (t345.toList == ([1] : List UInt8)) = false := beq_eq_false_iff_ne.mpr c11
   have c11b1 : (t345.toList != ([1] : List UInt8)) = true := bne_iff_ne.mpr c11
   replace H := bE H
   obtain ⟨t346, A160, H⟩ := H
   replace H : (if t346.toList = ([1] : List UInt8) then (some (a0, t344, t345)) else ((natural_Divide.f k t344 t346).bind fun bt347 => ((natural_Divide.f k t345 t346).bind fun bt350 => (if bt350.1.toList = ([1] : List UInt8) then (some (a0, bt347.1, (⟨#[]⟩ : ByteArray))) else (some (a0, bt347.1, bt350.1)))))) = some (r1, r2, r3) := H
   have A16 := Aside0.mk A160
   clear A160
   by_cases c17 : t346.toList = ([1] : List UInt8)
   ·rw [if_pos c17] at H
    have c17b0 : (t346.toList == ([1] : List UInt8)) = true := beq_iff_eq.mpr c17
    have c17b1 : (t346.toList != ([1] : List UInt8)) = false := bne_eq_false_iff_eq.mpr c17
    clear c17
    simp only [Option.some.injEq, Prod.mk.injEq] at H
    obtain ⟨rfl, rfl, rfl⟩ := H
    go_enter Tryd.func39, Tryd.ntmps39
    go_wp2_with (first | ((with_reducible refine gate_dst (N := 6) rfl ?_); refine box_event ?hg (N := 6) ?hd (cs := #[.bool false, .string (⟨#[]⟩ : ByteArray), .string (⟨#[]⟩ : ByteArray)]) (t := 33) ?hr ?_; (case hd => rfl); (case hg => rfl); (case hr => first | (go_simp; done) | (go_simp; rfl)); intro gb343 hg w18 hbox hb; have n0_ := aM (below_step (bU HB.out) hb); have n1_ := aM (hbox); have n2_ := aM ((by rw [hg]; exact (below_size (bU HB.out)) : w.heap.size ≤ gb343)); have n3_ := aM ((by rw [hg]; exact (below_size (bU HB.out)) : w.heap.size ≤ gb343)); clear HB; have HB := n0_; have BK343 := n1_; have GW343 := n2_; have GE343 := n3_; clear n0_ n1_ n2_ n3_; clear hb hbox hg) | ((with_reducible refine gate_callee (f := 51) rfl ?_); refine goesLq (some 9) rfl rfl Tryd.func51 #[.string a1] rfl ?_; (with_reducible refine (natural_Normalize.calls k a1 t344 _ A4.out).mono ?_); rintro e w19 ⟨rfl, hb⟩; refine ⟨_, rfl, ?_⟩; have n0_ := aM (blk_below (kU BK343.out) hb); have n1_ := aM (below_step (bU HB.out) hb); clear BK343; clear HB; have BK343 := n0_; have HB := n1_; clear n0_ n1_; (try clear hb); (try clear hb2); (try clear hk); (try clear hi)) | ((with_reducible refine gate_callee (f := 51) rfl ?_); refine goesLq (some 11) rfl rfl Tryd.func51 #[.string a2] rfl ?_; (with_reducible refine (natural_Normalize.calls k a2 t345 _ A5.out).mono ?_); rintro e w20 ⟨rfl, hb⟩; refine ⟨_, rfl, ?_⟩; have n0_ := aM (blk_below (kU BK343.out) hb); have n1_ := aM (below_step (bU HB.out) hb); clear BK343; clear HB; have BK343 := n0_; have HB := n1_; clear n0_ n1_; (try clear hb); (try clear hb2); (try clear hk); (try clear hi)) | ((with_reducible refine gate_callee (f := 58) rfl ?_); refine goesLq (some 19) rfl rfl Tryd.func58 #[.string t344, .string t345] rfl ?_; (with_reducible refine (natural_GCD.calls k t344 t345 t346 _ A16.out).mono ?_); rintro e w21 ⟨rfl, hb⟩; refine ⟨_, rfl, ?_⟩; have n0_ := aM (blk_below (kU BK343.out) hb); have n1_ := aM (below_step (bU HB.out) hb); clear BK343; clear HB; have BK343 := n0_; have HB := n1_; clear n0_ n1_; (try clear hb); (try clear hb2); (try clear hk); (try clear hi); obtain ⟨hcz22_0, hcz22_1, hcz22_2, hfz22_0, hfz22_1, hfz22_2⟩ := cz3 BK343.out))
    refine bodyPost_ret (results_cell_row rfl _ _ gb343 33 #[.bool a0, .string t344, .string t345] (0, 0) _ rfl (kP BK343.out) Tryd.underlying33 rfl (by kernel_rfl)) rfl ?_
    exact ⟨by first | rfl | (simp [errW_none, errW_some] <;> rfl) | (simp [*, errW_none, errW_some] <;> rfl), bU HB.out⟩
   ·rw [if_neg c17] at H
    have c17b0 : (t346.toList == ([1] : List UInt8)) = false := beq_eq_false_iff_ne.mpr c17
    have c17b1 : (t346.toList != ([1] : List UInt8)) = true := bne_iff_ne.mpr c17
    replace H := bE H
    obtain ⟨⟨t347, t348, t349⟩, A230, H⟩ := H
    replace H : ((natural_Divide.f k t345 t346).bind fun bt350 => (if bt350.1.toList = ([1] : List UInt8) then (some (a0, t347, (⟨#[]⟩ : ByteArray))) else (some (a0, t347, bt350.1)))) = some (r1, r2, r3) := H
    have A23 := Aside0.mk A230
    clear A230
    replace H := bE H
    obtain ⟨⟨t350, t351, t352⟩, A240, H⟩ := H
    replace H : (if t350.toList = ([1] : List UInt8) then (some (a0, t347, (⟨#[]⟩ : ByteArray))) else (some (a0, t347, t350))) = some (r1, r2, r3) := H
    have A24 := Aside0.mk A240
    clear A240
    by_cases c25 : t350.toList = ([1] : List UInt8)
    ·rw [if_pos c25] at H
     have c25b0 : (t350.toList == ([1] : List UInt8)) = true := beq_iff_eq.mpr c25
     have c25b1 : (t350.toList != ([1] : List UInt8)) = false := bne_eq_false_iff_eq.mpr c25
     clear c25
     simp only [Option.some.injEq, Prod.mk.injEq] at H
     obtain ⟨rfl, rfl, rfl⟩ := H
     go_enter Tryd.func39, Tryd.ntmps39
     go_wp2_with (first | ((with_reducible refine gate_dst (N := 6) rfl ?_); refine box_event ?hg (N := 6) ?hd (cs := #[.bool false, .string (⟨#[]⟩ : ByteArray), .string (⟨#[]⟩ : ByteArray)]) (t := 33) ?hr ?_; (case hd => rfl); (case hg => rfl); (case hr => first | (go_simp; done) | (go_simp; rfl)); intro gb343 hg w26 hbox hb; have n0_ := aM (below_step (bU HB.out) hb); have n1_ := aM (hbox); have n2_ := aM ((by rw [hg]; exact (below_size (bU HB.out)) : w.heap.size ≤ gb343)); have n3_ := aM ((by rw [hg]; exact (below_size (bU HB.out)) : w.heap.size ≤ gb343)); clear HB; have HB := n0_; have BK343 := n1_; have GW343 := n2_; have GE343 := n3_; clear n0_ n1_ n2_ n3_; clear hb hbox hg) | ((with_reducible refine gate_callee (f := 51) rfl ?_); refine goesLq (some 9) rfl rfl Tryd.func51 #[.string a1] rfl ?_; (with_reducible refine (natural_Normalize.calls k a1 t344 _ A4.out).mono ?_); rintro e w27 ⟨rfl, hb⟩; refine ⟨_, rfl, ?_⟩; have n0_ := aM (blk_below (kU BK343.out) hb); have n1_ := aM (below_step (bU HB.out) hb); clear BK343; clear HB; have BK343 := n0_; have HB := n1_; clear n0_ n1_; (try clear hb); (try clear hb2); (try clear hk); (try clear hi)) | ((with_reducible refine gate_callee (f := 51) rfl ?_); refine goesLq (some 11) rfl rfl Tryd.func51 #[.string a2] rfl ?_; (with_reducible refine (natural_Normalize.calls k a2 t345 _ A5.out).mono ?_); rintro e w28 ⟨rfl, hb⟩; refine ⟨_, rfl, ?_⟩; have n0_ := aM (blk_below (kU BK343.out) hb); have n1_ := aM (below_step (bU HB.out) hb); clear BK343; clear HB; have BK343 := n0_; have HB := n1_; clear n0_ n1_; (try clear hb); (try clear hb2); (try clear hk); (try clear hi)) | ((with_reducible refine gate_callee (f := 58) rfl ?_); refine goesLq (some 19) rfl rfl Tryd.func58 #[.string t344, .string t345] rfl ?_; (with_reducible refine (natural_GCD.calls k t344 t345 t346 _ A16.out).mono ?_); rintro e w29 ⟨rfl, hb⟩; refine ⟨_, rfl, ?_⟩; have n0_ := aM (blk_below (kU BK343.out) hb); have n1_ := aM (below_step (bU HB.out) hb); clear BK343; clear HB; have BK343 := n0_; have HB := n1_; clear n0_ n1_; (try clear hb); (try clear hb2); (try clear hk); (try clear hi)) | ((with_reducible refine gate_callee (f := 59) rfl ?_); refine goesLq (some 25) rfl rfl Tryd.func59 #[.string t344, .string t346] rfl ?_; (with_reducible refine (natural_Divide.calls k t344 t346 t347 t348 t349 _ A23.out).mono ?_); rintro e w30 ⟨rfl, hb⟩; refine ⟨_, rfl, ?_⟩; have n0_ := aM (blk_below (kU BK343.out) hb); have n1_ := aM (below_step (bU HB.out) hb); clear BK343; clear HB; have BK343 := n0_; have HB := n1_; clear n0_ n1_; (try clear hb); (try clear hb2); (try clear hk); (try clear hi)) | ((with_reducible refine gate_callee (f := 59) rfl ?_); refine goesLq (some 32) rfl rfl Tryd.func59 #[.string t345, .string t346] rfl ?_; (with_reducible refine (natural_Divide.calls k t345 t346 t350 t351 t352 _ A24.out).mono ?_); rintro e w31 ⟨rfl, hb⟩; refine ⟨_, rfl, ?_⟩; have n0_ := aM (blk_below (kU BK343.out) hb); have n1_ := aM (below_step (bU HB.out) hb); clear BK343; clear HB; have BK343 := n0_; have HB := n1_; clear n0_ n1_; (try clear hb); (try clear hb2); (try clear hk); (try clear hi); obtain ⟨hcz32_0, hcz32_1, hcz32_2, hfz32_0, hfz32_1, hfz32_2⟩ := cz3 BK343.out))
     refine bodyPost_ret (results_cell_row rfl _ _ gb343 33 #[.bool a0, .string t347, .string (⟨#[]⟩ : ByteArray)] (0, 0) _ rfl (kP BK343.out) Tryd.underlying33 rfl (by kernel_rfl)) rfl ?_
     exact ⟨by first | rfl | (simp [errW_none, errW_some] <;> rfl) | (simp [*, errW_none, errW_some] <;> rfl), bU HB.out⟩
    ·rw [if_neg c25] at H
     have c25b0 : (t350.toList == ([1] : List UInt8)) = false := beq_eq_false_iff_ne.mpr c25
     have c25b1 : (t350.toList != ([1] : List UInt8)) = true := bne_iff_ne.mpr c25
     simp only [Option.some.injEq, Prod.mk.injEq] at H
     obtain ⟨rfl, rfl, rfl⟩ := H
     go_enter Tryd.func39, Tryd.ntmps39
     go_wp2_with (first | ((with_reducible refine gate_dst (N := 6) rfl ?_); refine box_event ?hg (N := 6) ?hd (cs := #[.bool false, .string (⟨#[]⟩ : ByteArray), .string (⟨#[]⟩ : ByteArray)]) (t := 33) ?hr ?_; (case hd => rfl); (case hg => rfl); (case hr => first | (go_simp; done) | (go_simp; rfl)); intro gb343 hg w33 hbox hb; have n0_ := aM (below_step (bU HB.out) hb); have n1_ := aM (hbox); have n2_ := aM ((by rw [hg]; exact (below_size (bU HB.out)) : w.heap.size ≤ gb343)); have n3_ := aM ((by rw [hg]; exact (below_size (bU HB.out)) : w.heap.size ≤ gb343)); clear HB; have HB := n0_; have BK343 := n1_; have GW343 := n2_; have GE343 := n3_; clear n0_ n1_ n2_ n3_; clear hb hbox hg) | ((with_reducible refine gate_callee (f := 51) rfl ?_); refine goesLq (some 9) rfl rfl Tryd.func51 #[.string a1] rfl ?_; (with_reducible refine (natural_Normalize.calls k a1 t344 _ A4.out).mono ?_); rintro e w34 ⟨rfl, hb⟩; refine ⟨_, rfl, ?_⟩; have n0_ := aM (blk_below (kU BK343.out) hb); have n1_ := aM (below_step (bU HB.out) hb); clear BK343; clear HB; have BK343 := n0_; have HB := n1_; clear n0_ n1_; (try clear hb); (try clear hb2); (try clear hk); (try clear hi)) | ((with_reducible refine gate_callee (f := 51) rfl ?_); refine goesLq (some 11) rfl rfl Tryd.func51 #[.string a2] rfl ?_; (with_reducible refine (natural_Normalize.calls k a2 t345 _ A5.out).mono ?_); rintro e w35 ⟨rfl, hb⟩; refine ⟨_, rfl, ?_⟩; have n0_ := aM (blk_below (kU BK343.out) hb); have n1_ := aM (below_step (bU HB.out) hb); clear BK343; clear HB; have BK343 := n0_; have HB := n1_; clear n0_ n1_; (try clear hb); (try clear hb2); (try clear hk); (try clear hi)) | ((with_reducible refine gate_callee (f := 58) rfl ?_); refine goesLq (some 19) rfl rfl Tryd.func58 #[.string t344, .string t345] rfl ?_; (with_reducible refine (natural_GCD.calls k t344 t345 t346 _ A16.out).mono ?_); rintro e w36 ⟨rfl, hb⟩; refine ⟨_, rfl, ?_⟩; have n0_ := aM (blk_below (kU BK343.out) hb); have n1_ := aM (below_step (bU HB.out) hb); clear BK343; clear HB; have BK343 := n0_; have HB := n1_; clear n0_ n1_; (try clear hb); (try clear hb2); (try clear hk); (try clear hi)) | ((with_reducible refine gate_callee (f := 59) rfl ?_); refine goesLq (some 25) rfl rfl Tryd.func59 #[.string t344, .string t346] rfl ?_; (with_reducible refine (natural_Divide.calls k t344 t346 t347 t348 t349 _ A23.out).mono ?_); rintro e w37 ⟨rfl, hb⟩; refine ⟨_, rfl, ?_⟩; have n0_ := aM (blk_below (kU BK343.out) hb); have n1_ := aM (below_step (bU HB.out) hb); clear BK343; clear HB; have BK343 := n0_; have HB := n1_; clear n0_ n1_; (try clear hb); (try clear hb2); (try clear hk); (try clear hi)) | ((with_reducible refine gate_callee (f := 59) rfl ?_); refine goesLq (some 32) rfl rfl Tryd.func59 #[.string t345, .string t346] rfl ?_; (with_reducible refine (natural_Divide.calls k t345 t346 t350 t351 t352 _ A24.out).mono ?_); rintro e w38 ⟨rfl, hb⟩; refine ⟨_, rfl, ?_⟩; have n0_ := aM (blk_below (kU BK343.out) hb); have n1_ := aM (below_step (bU HB.out) hb); clear BK343; clear HB; have BK343 := n0_; have HB := n1_; clear n0_ n1_; (try clear hb); (try clear hb2); (try clear hk); (try clear hi); obtain ⟨hcz39_0, hcz39_1, hcz39_2, hfz39_0, hfz39_1, hfz39_2⟩ := cz3 BK343.out))
     refine bodyPost_ret (results_cell_row rfl _ _ gb343 33 #[.bool a0, .string t347, .string t350] (0, 0) _ rfl (kP BK343.out) Tryd.underlying33 rfl (by kernel_rfl)) rfl ?_
     exact ⟨by first | rfl | (simp [errW_none, errW_some] <;> rfl) | (simp [*, errW_none, errW_some] <;> rfl), bU HB.out⟩

/-! ### natural_Add: function 56 -/
mutual
def natural_Add.j0 : Nat → List Int → List Int → Option (ByteArray)
 | 0, _, _ => none
 | k + 1, x5, x6 => if 0 ≤ (wrap64 ((x5.length : Int) + 1)) then (if (wrap64 ((x5.length : Int) + 1) : Int).toNat ≤ 70368744177664 then (natural_Add.l0 k x5 x6 (List.replicate (wrap64 ((x5.length : Int) + 1) : Int).toNat 0) 0 (x5.length : Int) 0) else (none)) else (none)
def natural_Add.l0 : Nat → List Int → List Int → List Int → Int → Int → Int → Option (ByteArray)
 | 0, _, _, _, _, _, _ => none
 | k + 1, x5, x6, x7, x8, x27, x28 => if x28 < x27 then (if x28 < (x6.length : Int) then (if 0 ≤ x28 then (if x28 < (x5.length : Int) then ((bits_Add32.f (rd x5 x28) (rd x6 x28) x8).bind fun bt364 => (if x28 < (x7.length : Int) then (natural_Add.l0 k x5 x6 (x7.set (x28 : Int).toNat bt364.1) bt364.2 x27 (wrap64 (x28 + 1))) else (none))) else (none)) else (none)) else (if 0 ≤ x28 then (if x28 < (x5.length : Int) then ((bits_Add32.f (rd x5 x28) 0 x8).bind fun bt368 => (if x28 < (x7.length : Int) then (natural_Add.l0 k x5 x6 (x7.set (x28 : Int).toNat bt368.1) bt368.2 x27 (wrap64 (x28 + 1))) else (none))) else (none)) else (none))) else (if 0 ≤ (x5.length : Int) then (if (x5.length : Int) < (x7.length : Int) then ((natural_limbs_text.f k (x7.set ((x5.length : Int) : Int).toNat x8)).bind fun t372 => (some t372)) else (none)) else (none))
end
def natural_Add.f (k : Nat) (a0 : ByteArray) (a1 : ByteArray) : Option (ByteArray) := (natural_parse.f k a0).bind fun t353 => ((natural_parse.f k a1).bind fun t356 => (if (t353.length : Int) < (t356.length : Int) then (natural_Add.j0 k t356 t353) else (natural_Add.j0 k t353 t356)))
theorem natural_Add.mono_l : ∀ k, (∀ y0 y1, LeO (natural_Add.j0 k y0 y1) (natural_Add.j0 (k + 1) y0 y1)) ∧ (∀ y0 y1 y2 y3 y4 y5, LeO (natural_Add.l0 k y0 y1 y2 y3 y4 y5) (natural_Add.l0 (k + 1) y0 y1 y2 y3 y4 y5))
 | 0 => ⟨fun _ _ r h => by simp [natural_Add.j0] at h, fun _ _ _ _ _ _ r h => by simp [natural_Add.l0] at h⟩
 | k + 1 => by
  obtain ⟨ih0, ih1⟩ := natural_Add.mono_l k
  refine ⟨?_, ?_⟩
  ·intro y0 y1
   unfold natural_Add.j0
   repeat' first
   | (with_reducible exact ih0 _ _)
   | (with_reducible exact ih1 _ _ _ _ _ _)
   | (with_reducible exact natural_limbs_text.mono _ _)
   | (with_reducible exact natural_parse.mono _ _)
   | (with_reducible exact LeO.refl _)
   | (with_reducible exact LeO.none _)
   | (with_reducible refine LeO.ite ?_ ?_)
   | (with_reducible refine LeO.bind ?_ (fun _ => ?_))
   | exact LeO.none _
   | refine LeO.ite ?_ ?_
   | refine LeO.bind ?_ (fun _ => ?_)
  ·intro y0 y1 y2 y3 y4 y5
   unfold natural_Add.l0
   repeat' first
   | (with_reducible exact ih0 _ _)
   | (with_reducible exact ih1 _ _ _ _ _ _)
   | (with_reducible exact natural_limbs_text.mono _ _)
   | (with_reducible exact natural_parse.mono _ _)
   | (with_reducible exact LeO.refl _)
   | (with_reducible exact LeO.none _)
   | (with_reducible refine LeO.ite ?_ ?_)
   | (with_reducible refine LeO.bind ?_ (fun _ => ?_))
   | exact LeO.none _
   | refine LeO.ite ?_ ?_
   | refine LeO.bind ?_ (fun _ => ?_)
theorem natural_Add.mono : ∀ a0 a1 k, LeO (natural_Add.f k a0 a1) (natural_Add.f (k + 1) a0 a1) := by
 intro a0 a1 k
 obtain ⟨ih0, ih1⟩ := natural_Add.mono_l k
 unfold natural_Add.f
 repeat' first
   | (with_reducible exact ih0 _ _)
   | (with_reducible exact ih1 _ _ _ _ _ _)
   | (with_reducible exact natural_limbs_text.mono _ _)
   | (with_reducible exact natural_parse.mono _ _)
   | (with_reducible exact LeO.refl _)
   | (with_reducible exact LeO.none _)
   | (with_reducible refine LeO.ite ?_ ?_)
   | (with_reducible refine LeO.bind ?_ (fun _ => ?_))
   | exact LeO.none _
   | refine LeO.ite ?_ ?_
   | refine LeO.bind ?_ (fun _ => ?_)
set_option maxHeartbeats 8000000 in
set_option maxRecDepth 100000 in
theorem natural_Add.calls (k : Nat) (a0 : ByteArray) (a1 : ByteArray) (r : ByteArray) (w : World) (h : natural_Add.f k a0 a1 = some r) :
  Calls Tryd.prog 56 #[.string a0, .string a1] w fun e w' => e = .returned (.string r) ∧ Below w.heap.size w w' := by
 have HB := aM (Below.refl w.heap.size w)
 have H : ((natural_parse.f k a0).bind fun t353 => ((natural_parse.f k a1).bind fun t356 => (if (t353.length : Int) < (t356.length : Int) then (natural_Add.j0 k t356 t353) else (natural_Add.j0 k t353 t356)))) = some r := h
 clear h
 replace H := bE H
 obtain ⟨t353, A30, H⟩ := H
 replace H : ((natural_parse.f k a1).bind fun t356 => (if (t353.length : Int) < (t356.length : Int) then (natural_Add.j0 k t356 t353) else (natural_Add.j0 k t353 t356))) = some r := H
 have A3 := Aside0.mk A30
 clear A30
 replace H := bE H
 obtain ⟨t356, A40, H⟩ := H
 replace H : (if (t353.length : Int) < (t356.length : Int) then (natural_Add.j0 k t356 t353) else (natural_Add.j0 k t353 t356)) = some r := H
 have A4 := Aside0.mk A40
 clear A40
 have HC5 := Aside0.mk H
 clear H
 go_enter Tryd.func56, Tryd.ntmps56
 go_upto_if 19 with (first | ((with_reducible refine gate_callee (f := 54) rfl ?_); refine goesLq (some 12) rfl rfl Tryd.func54 #[.string a0] rfl ?_; (with_reducible refine (natural_parse.calls k a0 t353 _ A3.out).mono ?_); rintro e w6 ⟨v354, rfl, ho0, hb⟩; refine ⟨_, rfl, ?_⟩; have n0_ := aM (Kd.V_lower (Kd.V_mono (ok' := fun k_ => True) ho0 (fun k_ hk_ => trivial)) (below_size (bU HB.out))); have n1_ := aM (below_step (bU HB.out) hb); clear HB; have HO355 := n0_; have HB := n1_; clear n0_ n1_; (try clear hb); (try clear hb2); (try clear hk); (try clear hi); (try clear ho0)) | ((with_reducible refine gate_callee (f := 54) rfl ?_); refine goesLq (some 14) rfl rfl Tryd.func54 #[.string a1] rfl ?_; (with_reducible refine (natural_parse.calls k a1 t356 _ A4.out).mono ?_); rintro e w7 ⟨v357, rfl, ho0, hb⟩; refine ⟨_, rfl, ?_⟩; have n0_ := aM (Kd.V_below (Kd.V_up HO355.out) hb); have n1_ := aM (Kd.V_lower (Kd.V_mono (ok' := fun k_ => True) ho0 (fun k_ hk_ => trivial)) (below_size (bU HB.out))); have n2_ := aM (below_step (bU HB.out) hb); clear HO355; clear HB; have HO355 := n0_; have HO358 := n1_; have HB := n2_; clear n0_ n1_ n2_; (try clear hb); (try clear hb2); (try clear hk); (try clear hi); (try clear ho0); obtain ⟨Ao8, co8, eo8⟩ := Kd.V_slice HO355.out; subst eo8; obtain ⟨Ao9, co9, eo9⟩ := Kd.V_slice HO358.out; subst eo9))
 (try simp only [Act.put, List.setIfInBounds_toArray, List.set_cons_zero, List.set_cons_succ])
 go_cut [5, 6] (fun v5 v6 wc => ∃ (kq : Nat) (x5_4 : List Int) (x6_4 : List Int), Aside0 (natural_Add.j0 kq x5_4 x6_4 = some r) ∧ Aside0 (kq ≤ k) ∧ Aside0 (Kd.V (Kd.int .u32) 86 wc w.heap.size (fun _ => True) v5 x5_4) ∧ Aside0 (Kd.V (Kd.int .u32) 86 wc w.heap.size (fun _ => True) v6 x6_4) ∧ Aside0 (Below w.heap.size w wc))
 case first =>
  have H := HC5.out
  clear HC5
  by_cases c10 : (t353.length : Int) < (t356.length : Int)
  ·rw [if_pos c10] at H
   have c10b0 := decide_eq_true c10
   have c10b1 : decide (t353.length < t356.length) = true := decide_eq_true (Int.ofNat_lt.mp c10)
   clear c10
   (first | rw [c10b0] | (simp only [i64_w, i32_w]; rw [c10b0]) | rw [c10b1] | skip)
   have H' := Aside0.mk H
   clear H
   go_wp2
   go_meet
   case rel => exact ⟨_, (t356), (t353), H', ⟨by first | omega | exact Nat.le_refl _⟩, ⟨Kd.V_up HO358.out⟩, ⟨Kd.V_up HO355.out⟩, ⟨bU HB.out⟩⟩
  ·rw [if_neg c10] at H
   have c10b0 := decide_eq_false c10
   have c10b1 : decide (t353.length < t356.length) = false := decide_eq_false (fun h => c10 (Int.ofNat_lt.mpr h))
   clear c10
   (first | rw [c10b0] | (simp only [i64_w, i32_w]; rw [c10b0]) | rw [c10b1] | skip)
   have H' := Aside0.mk H
   clear H
   go_wp2
   go_meet
   case rel => exact ⟨_, (t353), (t356), H', ⟨by first | omega | exact Nat.le_refl _⟩, ⟨Kd.V_up HO355.out⟩, ⟨Kd.V_up HO358.out⟩, ⟨bU HB.out⟩⟩
 case rest =>
  clear HC5
  (try clear c1); (try clear p2); (try clear c5); (try clear c10); (try clear c10b0); (try clear c10b1)
  obtain ⟨kq, x5_4, x6_4, HA, HJ4, HO_5, HO_6, HB⟩ := hcut
  cases kq with
  | zero => exact absurd HA.out (by simp [natural_Add.j0])
  | succ kj4 =>
   have H := HA.out
   clear HA
   simp only [natural_Add.j0] at H
   obtain ⟨ji11, hji11⟩ : ∃ j_ : Int, (wrap64 ((x5_4.length : Int) + 1)) = j_ := ⟨_, rfl⟩
   replace H : (if 0 ≤ (ji11) then (if (ji11 : Int).toNat ≤ 70368744177664 then (natural_Add.l0 kj4 x5_4 x6_4 (List.replicate (ji11 : Int).toNat 0) 0 (x5_4.length : Int) 0) else (none)) else (none)) = some r := by first | (rw [hji11] at H; exact H) | (simp only [hji11] at H ⊢; exact H)
   have hji11w : (IntKind.i64.wrap ((x5_4.length : Int) + 1)) = ji11 := (i64_w _).trans hji11
   by_cases c12 : 0 ≤ (ji11)
   ·rw [if_pos c12] at H
    have c12b0 := eq_true c12
    have c12b1 := decide_eq_true c12
    clear c12
    by_cases c13 : (ji11 : Int).toNat ≤ 70368744177664
    ·rw [if_pos c13] at H
     have c13b0 := eq_true c13
     have c13b1 := decide_eq_true c13
     clear c13
     obtain ⟨y359, hy359⟩ : ∃ y_ : List Int, y_ = (List.replicate (ji11 : Int).toNat 0) := ⟨_, rfl⟩
     replace H : (natural_Add.l0 kj4 x5_4 x6_4 y359 0 (x5_4.length : Int) 0) = some r := by first | (rw [hy359]; with_reducible exact H) | (have H2_ := (Option.bind_some _ _).symm.trans H; rw [hy359]; with_reducible exact H2_) | (have H2_ := (Option.bind_some _ _).symm.trans H; with_reducible exact H2_) | with_reducible exact H | (rw [hy359]; exact H) | exact H
     have Ny359 := Aside0.mk hy359
     clear hy359
     have H' := Aside0.mk H
     clear H
     obtain ⟨Ao14, co14, eo14⟩ := Kd.V_slice HO_5.out
     subst eo14
     go_wp2_with (first | ((with_reducible refine gate_dst (N := 25) rfl ?_); refine Kd.R_make (Kd.int .u32) _ 86 rfl (N := 25) rfl 84 _ _ rfl ji11 rfl rfl Tryd.underlying84 (.int .u32 0) 4 info86 rfl (by decide) (by omega) 0 (ok := fun _ => True) (okp := fun _ => True) rfl (fun _ hk => hk) trivial (oD) (Nat.le_trans (Nat.mul_le_mul_right _ (oD : ji11.toNat ≤ 70368744177664)) (by omega)) (Below.refl _ _) (Nat.le_refl _) ?_; intro v360 w15 ho16 hb hg_ hnew_; clear hg_ hnew_; (first | rw [← Ny359.out] at ho16 | (simp only [Int.reduceToNat] at ho16; rw [← Ny359.out] at ho16)); have n0_ := aM (Kd.V_elder' (Kd.V_up HO_5.out) (Kd.R_base ho16) hb); have n1_ := aM (Kd.V_elder' (Kd.V_up HO_6.out) (Kd.R_base ho16) hb); have n2_ := aM (Kd.R_lower ho16 (below_size (bU HB.out))); have n3_ := aM (below_step (bU HB.out) hb); clear HO_5; clear HO_6; clear HB; have HO_5 := n0_; have HO_6 := n1_; have HO361 := n2_; have HB := n3_; clear n0_ n1_ n2_ n3_; clear hb ho16))
     go_loopg [8, 28] kj4 (fun kq v8 v28 w' => ∃ (x7_2 : List Int) (x8_2 : Int) (x28_2 : Int), v8 = .int .u32 x8_2 ∧ v28 = .int .i64 x28_2 ∧ Aside0 (natural_Add.l0 kq x5_4 x6_4 x7_2 x8_2 (x5_4.length : Int) x28_2 = some r) ∧ Aside0 (kq ≤ kj4) ∧ Aside0 (Kd.V (Kd.int .u32) 86 w' w.heap.size (fun k_ => some k_ ≠ (v360 : Value).ownBlock) (.slice Ao14 x5_4.length co14) x5_4) ∧ Aside0 (Kd.V (Kd.int .u32) 86 w' w.heap.size (fun k_ => some k_ ≠ (v360 : Value).ownBlock) u6 x6_4) ∧ Aside0 (Kd.R (Kd.int .u32) 86 w' w.heap.size (fun _ => True) v360 x7_2) ∧ Aside0 (Below w.heap.size w w'))
     case atStart => exact ⟨(y359), (0), (0), (by first | rfl | (simp; done) | (simp [*]; done)), (by first | rfl | (simp; done) | (simp [*]; done)), H', ⟨Nat.le_refl _⟩, ⟨Kd.V_up (Kd.V_mono HO_5.out (fun _ hk => hk.2))⟩, ⟨Kd.V_up (Kd.V_mono HO_6.out (fun _ hk => hk.2))⟩, ⟨Kd.R_up HO361.out⟩, ⟨bU HB.out⟩⟩
     case round =>
      clear H'
      (try clear c1); (try clear p2); (try clear c5); (try clear p6); (try clear c10); (try clear c10b0); (try clear c10b1); (try clear c12); (try clear c12b0); (try clear c12b1); (try clear c13); (try clear c13b0); (try clear c13b1); (try clear p2)
      obtain ⟨x7_2, x8_2, x28_2, rfl, rfl, HA, HK2, HO_5, HO_6, HO_7, HB⟩ := hrel
      cases gk with
      | zero => exact absurd HA.out (by simp [natural_Add.l0])
      | succ k2 =>
       have H := HA.out
       clear HA
       simp only [natural_Add.l0] at H
       by_cases c17 : x28_2 < (x5_4.length : Int)
       ·rw [if_pos c17] at H
        have c17b0 := decide_eq_true c17
        clear c17
        by_cases c18 : x28_2 < (x6_4.length : Int)
        ·rw [if_pos c18] at H
         have c18b0 := decide_eq_true c18
         clear c18
         by_cases c19 : 0 ≤ x28_2
         ·rw [if_pos c19] at H
          have c19b0 := decide_eq_true c19
          clear c19
          by_cases c20 : x28_2 < (x5_4.length : Int)
          ·rw [if_pos c20] at H
           have c20b0 := decide_eq_true c20
           clear c20
           replace H := bE H
           obtain ⟨⟨t364, t365⟩, A210, H⟩ := H
           replace H : (if x28_2 < (x7_2.length : Int) then (natural_Add.l0 k2 x5_4 x6_4 (x7_2.set (x28_2 : Int).toNat t364) t365 (x5_4.length : Int) (wrap64 (x28_2 + 1))) else (none)) = some r := H
           have A21 := Aside0.mk A210
           clear A210
           by_cases c22 : x28_2 < (x7_2.length : Int)
           ·rw [if_pos c22] at H
            have c22b0 := decide_eq_true c22
            clear c22
            obtain ⟨y366, hy366⟩ : ∃ y_ : List Int, y_ = (x7_2.set (x28_2 : Int).toNat t364) := ⟨_, rfl⟩
            replace H : (natural_Add.l0 k2 x5_4 x6_4 y366 t365 (x5_4.length : Int) (wrap64 (x28_2 + 1))) = some r := by first | (rw [hy366]; with_reducible exact H) | (have H2_ := (Option.bind_some _ _).symm.trans H; rw [hy366]; with_reducible exact H2_) | (have H2_ := (Option.bind_some _ _).symm.trans H; with_reducible exact H2_) | with_reducible exact H | (rw [hy366]; exact H) | exact H
            have Ny366 := Aside0.mk hy366
            clear hy366
            have H' := Aside0.mk H
            clear H
            obtain ⟨Ao24, co24, eo24⟩ := Kd.V_slice HO_6.out
            subst eo24
            have p362 : 0 ≤ (x28_2 : Int) := oD
            have q362 : x28_2 < (x6_4.length : Int) := oD
            obtain ⟨ad362, e362, hx362_0⟩ := Kd.at_int (Kd.V_reads' HO_6.out).2.2 x28_2 p362 q362
            cases e362
            replace p362 := eq_true p362
            replace q362 := eq_true q362
            have p363 : 0 ≤ (x28_2 : Int) := oD
            have q363 : x28_2 < (x5_4.length : Int) := oD
            obtain ⟨ad363, e363, hx363_0⟩ := Kd.at_int (Kd.V_reads' HO_5.out).2.2 x28_2 p363 q363
            cases e363
            replace p363 := eq_true p363
            replace q363 := eq_true q363
            go_wp2_with (first | ((with_reducible refine gate_callee (f := 75) rfl ?_); refine goesLq (some 48) rfl rfl Tryd.func75 #[.int .u32 (rd x5_4 x28_2), .int .u32 (rd x6_4 x28_2), .int .u32 x8_2] rfl ?_; (with_reducible refine (bits_Add32.calls (rd x5_4 x28_2) (rd x6_4 x28_2) x8_2 t364 t365 _ A21.out).mono ?_); rintro e w' ⟨rfl, ⟨nd, rfl⟩⟩; refine ⟨_, rfl, ?_⟩; (try (rw [drewN_self wr]; generalize hq_ : World.drewN wr _ = wr; have n0_ : Aside0 (Kd.V (Kd.int .u32) 86 wr w.heap.size (fun k_ => some k_ ≠ (v360 : Value).ownBlock) (.slice (some ad363) x5_4.length co14) x5_4) := ⟨by rw [← hq_]; exact (Kd.V_up HO_5.out)⟩; have n1_ : Aside0 (Kd.V (Kd.int .u32) 86 wr w.heap.size (fun k_ => some k_ ≠ (v360 : Value).ownBlock) (.slice (some ad362) x6_4.length co24) x6_4) := ⟨by rw [← hq_]; exact (Kd.V_up HO_6.out)⟩; have n2_ : Aside0 (Kd.R (Kd.int .u32) 86 wr w.heap.size (fun _ => True) v360 x7_2) := ⟨by rw [← hq_]; exact (Kd.R_up HO_7.out)⟩; have n3_ : Aside0 (Below w.heap.size w wr) := ⟨by rw [← hq_]; exact (bU HB.out)⟩; clear HO_5 HO_6 HO_7 HB hq_; have HO_5 := n0_; have HO_6 := n1_; have HO_7 := n2_; have HB := n3_; clear n0_ n1_ n2_ n3_)); have p23 : 0 ≤ (x28_2 : Int) := oD; have q23 : (x28_2 : Int) < ((x7_2.length : Int) : Int) := oD; obtain ⟨go23, co23, eo23, gb23, gl23, cl23, HG23⟩ := Kd.R_form HO_7.out (by omega); (first | cases eo23 | (injection eo23 with ea_ en_ ec_; (first | subst ea_ | (injection ea_ with ea_; subst ea_)); subst ec_; clear en_)); have GB23 := Aside0.mk gb23; have GG23 := Aside0.mk HG23; clear gb23 gl23 HG23; obtain ⟨hx23_0, hf23_0⟩ := Kd.R_celln 0 HO_7.out (x28_2 : Int) p23 q23; replace p23 := eq_true p23; replace q23 := eq_true q23; obtain ⟨hy25_, hz25_⟩ := Kd.R_celln 0 HO_7.out (x28_2 : Int) (oD) (oD); have HP25 := Kd.R_putg HO_7.out (x28_2 : Int) t364) | ((with_reducible refine gate_store (t := 86) (p := 51) rfl ?_); refine store_event (t := 86) (p := 51) (v := ?vo_w26) (w1 := (wr.setCell ⟨go23, (x28_2 : Int).toNat, none⟩ (.int .u32 t364))) ?hg ?ho ?hn ?hr ?_; (case ho => rfl); (case hg => rfl); (case hn => rfl); (case hr => first | (go_simp; done) | (go_simp; rfl)); intro w26 hw; have hg : wr.grownBy w26 (some go23) := (by rw [hw]; exact HP25.2); have hp_ : Kd.R (Kd.int .u32) 86 w26 w.heap.size (fun _ => True) (.slice (some ⟨go23, 0, none⟩) x7_2.length co23) y366 := (by rw [hw, Ny366.out]; exact HP25.1); clear HP25; have n0_ := aM (Kd.V_afterv (v := (.slice (some ⟨go23, 0, none⟩) x7_2.length co23)) (v1 := (.slice (some ⟨go23, 0, none⟩) x7_2.length co23)) (ok := (fun _ => True)) (Kd.V_up (Kd.V_mono HO_5.out (fun _ hk => ⟨trivial, hk⟩))) hg (.inl rfl)); have n1_ := aM (Kd.V_afterv (v := (.slice (some ⟨go23, 0, none⟩) x7_2.length co23)) (v1 := (.slice (some ⟨go23, 0, none⟩) x7_2.length co23)) (ok := (fun _ => True)) (Kd.V_up (Kd.V_mono HO_6.out (fun _ hk => ⟨trivial, hk⟩))) hg (.inl rfl)); have n2_ := aM (hp_); have n3_ := aM ((by rw [hw]; exact below_set (HB.out) GB23.out : Below w.heap.size w w26)); clear HO_5; clear HO_6; clear HO_7; clear HB; have HO_5 := n0_; have HO_6 := n1_; have HO_7 := n2_; have HB := n3_; clear n0_ n1_ n2_ n3_; clear hg hw hp_))
            go_roundg k2
            case measure => have := HJ4.out; have := HK2.out; omega
            case rel => exact ⟨(y366), (t365), (wrap64 (x28_2 + 1)), (by first | rfl | (simp; done) | (simp [*]; done)), (by first | rfl | (simp; done) | (simp [*]; done)), H', ⟨by have := HJ4.out; have := HK2.out; omega⟩, ⟨Kd.V_up (Kd.V_mono HO_5.out (fun _ hk => hk.2))⟩, ⟨Kd.V_up (Kd.V_mono HO_6.out (fun _ hk => hk.2))⟩, ⟨Kd.R_up HO_7.out⟩, ⟨bU HB.out⟩⟩
           ·rw [if_neg c22] at H
            exact absurd H (by simp)
          ·rw [if_neg c20] at H
           exact absurd H (by simp)
         ·rw [if_neg c19] at H
          exact absurd H (by simp)
        ·rw [if_neg c18] at H
         have c18b0 := decide_eq_false c18
         clear c18
         by_cases c27 : 0 ≤ x28_2
         ·rw [if_pos c27] at H
          have c27b0 := decide_eq_true c27
          clear c27
          by_cases c28 : x28_2 < (x5_4.length : Int)
          ·rw [if_pos c28] at H
           have c28b0 := decide_eq_true c28
           clear c28
           replace H := bE H
           obtain ⟨⟨t368, t369⟩, A290, H⟩ := H
           replace H : (if x28_2 < (x7_2.length : Int) then (natural_Add.l0 k2 x5_4 x6_4 (x7_2.set (x28_2 : Int).toNat t368) t369 (x5_4.length : Int) (wrap64 (x28_2 + 1))) else (none)) = some r := H
           have A29 := Aside0.mk A290
           clear A290
           by_cases c30 : x28_2 < (x7_2.length : Int)
           ·rw [if_pos c30] at H
            have c30b0 := decide_eq_true c30
            clear c30
            obtain ⟨y370, hy370⟩ : ∃ y_ : List Int, y_ = (x7_2.set (x28_2 : Int).toNat t368) := ⟨_, rfl⟩
            replace H : (natural_Add.l0 k2 x5_4 x6_4 y370 t369 (x5_4.length : Int) (wrap64 (x28_2 + 1))) = some r := by first | (rw [hy370]; with_reducible exact H) | (have H2_ := (Option.bind_some _ _).symm.trans H; rw [hy370]; with_reducible exact H2_) | (have H2_ := (Option.bind_some _ _).symm.trans H; with_reducible exact H2_) | with_reducible exact H | (rw [hy370]; exact H) | exact H
            have Ny370 := Aside0.mk hy370
            clear hy370
            have H' := Aside0.mk H
            clear H
            obtain ⟨Ao32, co32, eo32⟩ := Kd.V_slice HO_6.out
            subst eo32
            have p367 : 0 ≤ (x28_2 : Int) := oD
            have q367 : x28_2 < (x5_4.length : Int) := oD
            obtain ⟨ad367, e367, hx367_0⟩ := Kd.at_int (Kd.V_reads' HO_5.out).2.2 x28_2 p367 q367
            cases e367
            replace p367 := eq_true p367
            replace q367 := eq_true q367
            go_wp2_with (first | ((with_reducible refine gate_callee (f := 75) rfl ?_); refine goesLq (some 48) rfl rfl Tryd.func75 #[.int .u32 (rd x5_4 x28_2), .int .u32 0, .int .u32 x8_2] rfl ?_; (with_reducible refine (bits_Add32.calls (rd x5_4 x28_2) 0 x8_2 t368 t369 _ A29.out).mono ?_); rintro e w' ⟨rfl, ⟨nd, rfl⟩⟩; refine ⟨_, rfl, ?_⟩; (try (rw [drewN_self wr]; generalize hq_ : World.drewN wr _ = wr; have n0_ : Aside0 (Kd.V (Kd.int .u32) 86 wr w.heap.size (fun k_ => some k_ ≠ (v360 : Value).ownBlock) (.slice (some ad367) x5_4.length co14) x5_4) := ⟨by rw [← hq_]; exact (Kd.V_up HO_5.out)⟩; have n1_ : Aside0 (Kd.V (Kd.int .u32) 86 wr w.heap.size (fun k_ => some k_ ≠ (v360 : Value).ownBlock) (.slice Ao32 x6_4.length co32) x6_4) := ⟨by rw [← hq_]; exact (Kd.V_up HO_6.out)⟩; have n2_ : Aside0 (Kd.R (Kd.int .u32) 86 wr w.heap.size (fun _ => True) v360 x7_2) := ⟨by rw [← hq_]; exact (Kd.R_up HO_7.out)⟩; have n3_ : Aside0 (Below w.heap.size w wr) := ⟨by rw [← hq_]; exact (bU HB.out)⟩; clear HO_5 HO_6 HO_7 HB hq_; have HO_5 := n0_; have HO_6 := n1_; have HO_7 := n2_; have HB := n3_; clear n0_ n1_ n2_ n3_)); have p31 : 0 ≤ (x28_2 : Int) := oD; have q31 : (x28_2 : Int) < ((x7_2.length : Int) : Int) := oD; obtain ⟨go31, co31, eo31, gb31, gl31, cl31, HG31⟩ := Kd.R_form HO_7.out (by omega); (first | cases eo31 | (injection eo31 with ea_ en_ ec_; (first | subst ea_ | (injection ea_ with ea_; subst ea_)); subst ec_; clear en_)); have GB31 := Aside0.mk gb31; have GG31 := Aside0.mk HG31; clear gb31 gl31 HG31; obtain ⟨hx31_0, hf31_0⟩ := Kd.R_celln 0 HO_7.out (x28_2 : Int) p31 q31; replace p31 := eq_true p31; replace q31 := eq_true q31; obtain ⟨hy33_, hz33_⟩ := Kd.R_celln 0 HO_7.out (x28_2 : Int) (oD) (oD); have HP33 := Kd.R_putg HO_7.out (x28_2 : Int) t368) | ((with_reducible refine gate_store (t := 86) (p := 51) rfl ?_); refine store_event (t := 86) (p := 51) (v := ?vo_w34) (w1 := (wr.setCell ⟨go31, (x28_2 : Int).toNat, none⟩ (.int .u32 t368))) ?hg ?ho ?hn ?hr ?_; (case ho => rfl); (case hg => rfl); (case hn => rfl); (case hr => first | (go_simp; done) | (go_simp; rfl)); intro w34 hw; have hg : wr.grownBy w34 (some go31) := (by rw [hw]; exact HP33.2); have hp_ : Kd.R (Kd.int .u32) 86 w34 w.heap.size (fun _ => True) (.slice (some ⟨go31, 0, none⟩) x7_2.length co31) y370 := (by rw [hw, Ny370.out]; exact HP33.1); clear HP33; have n0_ := aM (Kd.V_afterv (v := (.slice (some ⟨go31, 0, none⟩) x7_2.length co31)) (v1 := (.slice (some ⟨go31, 0, none⟩) x7_2.length co31)) (ok := (fun _ => True)) (Kd.V_up (Kd.V_mono HO_5.out (fun _ hk => ⟨trivial, hk⟩))) hg (.inl rfl)); have n1_ := aM (Kd.V_afterv (v := (.slice (some ⟨go31, 0, none⟩) x7_2.length co31)) (v1 := (.slice (some ⟨go31, 0, none⟩) x7_2.length co31)) (ok := (fun _ => True)) (Kd.V_up (Kd.V_mono HO_6.out (fun _ hk => ⟨trivial, hk⟩))) hg (.inl rfl)); have n2_ := aM (hp_); have n3_ := aM ((by rw [hw]; exact below_set (HB.out) GB31.out : Below w.heap.size w w34)); clear HO_5; clear HO_6; clear HO_7; clear HB; have HO_5 := n0_; have HO_6 := n1_; have HO_7 := n2_; have HB := n3_; clear n0_ n1_ n2_ n3_; clear hg hw hp_))
            go_roundg k2
            case measure => have := HJ4.out; have := HK2.out; omega
            case rel => exact ⟨(y370), (t369), (wrap64 (x28_2 + 1)), (by first | rfl | (simp; done) | (simp [*]; done)), (by first | rfl | (simp; done) | (simp [*]; done)), H', ⟨by have := HJ4.out; have := HK2.out; omega⟩, ⟨Kd.V_up (Kd.V_mono HO_5.out (fun _ hk => hk.2))⟩, ⟨Kd.V_up (Kd.V_mono HO_6.out (fun _ hk => hk.2))⟩, ⟨Kd.R_up HO_7.out⟩, ⟨bU HB.out⟩⟩
           ·rw [if_neg c30] at H
            exact absurd H (by simp)
          ·rw [if_neg c28] at H
           exact absurd H (by simp)
         ·rw [if_neg c27] at H
          exact absurd H (by simp)
       ·rw [if_neg c17] at H
        have c17b0 := decide_eq_false c17
        clear c17
        by_cases c35 : 0 ≤ (x5_4.length : Int)
        ·rw [if_pos c35] at H
         have c35b0 := decide_eq_true c35
         have c35b1 : decide (0 ≤ x5_4.length) = true := decide_eq_true (by omega)
         clear c35
         by_cases c36 : (x5_4.length : Int) < (x7_2.length : Int)
         ·rw [if_pos c36] at H
          have c36b0 := decide_eq_true c36
          have c36b1 : decide (x5_4.length < x7_2.length) = true := decide_eq_true (Int.ofNat_lt.mp c36)
          clear c36
          obtain ⟨y371, hy371⟩ : ∃ y_ : List Int, y_ = (x7_2.set ((x5_4.length : Int) : Int).toNat x8_2) := ⟨_, rfl⟩
          replace H : ((natural_limbs_text.f k2 y371).bind fun t372 => (some t372)) = some r := by first | (rw [hy371]; with_reducible exact H) | (have H2_ := (Option.bind_some _ _).symm.trans H; rw [hy371]; with_reducible exact H2_) | (have H2_ := (Option.bind_some _ _).symm.trans H; with_reducible exact H2_) | with_reducible exact H | (rw [hy371]; exact H) | exact H
          have Ny371 := Aside0.mk hy371
          clear hy371
          replace H := bE H
          obtain ⟨t372, A380, H⟩ := H
          replace H : (some t372) = some r := H
          have A38 := Aside0.mk A380
          clear A380
          obtain rfl := Option.some.inj H
          have p37 : 0 ≤ ((x5_4.length : Int) : Int) := oD
          have q37 : ((x5_4.length : Int) : Int) < ((x7_2.length : Int) : Int) := oD
          obtain ⟨go37, co37, eo37, gb37, gl37, cl37, HG37⟩ := Kd.R_form HO_7.out (by omega)
          (first | cases eo37 | (injection eo37 with ea_ en_ ec_; (first | subst ea_ | (injection ea_ with ea_; subst ea_)); subst ec_; clear en_))
          have GB37 := Aside0.mk gb37
          have GG37 := Aside0.mk HG37
          clear gb37 gl37 HG37
          obtain ⟨hx37_0, hf37_0⟩ := Kd.R_celln 0 HO_7.out ((x5_4.length : Int) : Int) p37 q37
          (try simp only [Int.toNat_natCast] at hx37_0 hf37_0)
          replace p37 := eq_true p37
          replace q37 := eq_true q37
          have HP39 := Kd.R_putg HO_7.out ((x5_4.length : Int) : Int) x8_2
          go_wp2_with (first | ((with_reducible refine gate_store (t := 86) (p := 57) rfl ?_); refine store_event (t := 86) (p := 57) (v := ?vo_w40) (w1 := (wr.setCell ⟨go37, ((x5_4.length : Int) : Int).toNat, none⟩ (.int .u32 x8_2))) ?hg ?ho ?hn ?hr ?_; (case ho => rfl); (case hg => rfl); (case hn => rfl); (case hr => first | (go_simp; done) | (go_simp; rfl)); intro w40 hw; have hg : wr.grownBy w40 (some go37) := (by rw [hw]; exact HP39.2); have hp_ : Kd.R (Kd.int .u32) 86 w40 w.heap.size (fun _ => True) (.slice (some ⟨go37, 0, none⟩) x7_2.length co37) y371 := (by rw [hw, Ny371.out]; exact HP39.1); clear HP39; have n0_ := aM (Kd.V_afterv (v := (.slice (some ⟨go37, 0, none⟩) x7_2.length co37)) (v1 := (.slice (some ⟨go37, 0, none⟩) x7_2.length co37)) (ok := (fun _ => True)) (Kd.V_up (Kd.V_mono HO_5.out (fun _ hk => ⟨trivial, hk⟩))) hg (.inl rfl)); have n1_ := aM (Kd.V_afterv (v := (.slice (some ⟨go37, 0, none⟩) x7_2.length co37)) (v1 := (.slice (some ⟨go37, 0, none⟩) x7_2.length co37)) (ok := (fun _ => True)) (Kd.V_up (Kd.V_mono HO_6.out (fun _ hk => ⟨trivial, hk⟩))) hg (.inl rfl)); have n2_ := aM (hp_); have n3_ := aM ((by rw [hw]; exact below_set (HB.out) GB37.out : Below w.heap.size w w40)); clear HO_5; clear HO_6; clear HO_7; clear HB; have HO_5 := n0_; have HO_6 := n1_; have HO_7 := n2_; have HB := n3_; clear n0_ n1_ n2_ n3_; clear hg hw hp_) | ((with_reducible refine gate_callee (f := 55) rfl ?_); refine goesL_ (some 59) rfl rfl Tryd.func55 (by kernel_rfl) rfl #[.slice (some ⟨go37, 0, none⟩) y371.length co37] rfl (by (try simp only [List.map_toArray, List.map_cons, List.map_nil]); first | done | (rw [show y371.length = x7_2.length from (Kd.R_reads' HO_7.out).1.symm] <;> rfl) | rfl | (simp only [List.length_drop, List.length_take]; rfl)) ?_; (with_reducible refine (natural_limbs_text.calls k2 _ _ y371 t372 _ ?side1 ?side2 A38.out).mono ?_); (case side1 => exact Kd.C_up (Kd.R_reads' HO_7.out).2.2); (case side2 => rw [show y371.length = x7_2.length from (Kd.R_reads' HO_7.out).1.symm]; exact (Kd.R_reads' HO_7.out).2.1); rintro e w41 ⟨rfl, hb⟩; refine ⟨_, rfl, ?_⟩; have n0_ := aM (Kd.V_below (Kd.V_up HO_5.out) hb); have n1_ := aM (Kd.V_below (Kd.V_up HO_6.out) hb); have n2_ := aM (Kd.R_below (Kd.R_up HO_7.out) hb); have n3_ := aM (below_step (bU HB.out) hb); clear HO_5; clear HO_6; clear HO_7; clear HB; have HO_5 := n0_; have HO_6 := n1_; have HO_7 := n2_; have HB := n3_; clear n0_ n1_ n2_ n3_; (try clear hb); (try clear hb2); (try clear hk); (try clear hi)))
          go_ret
          exact ⟨by first | rfl | (simp [errW_none, errW_some] <;> rfl) | (simp only [← hji11]; first | rfl | (simp [errW_none, errW_some] <;> rfl)) | (simp [*, errW_none, errW_some] <;> rfl), bU HB.out⟩
         ·rw [if_neg c36] at H
          exact absurd H (by simp)
        ·rw [if_neg c35] at H
         exact absurd H (by simp)
    ·rw [if_neg c13] at H
     exact absurd H (by simp)
   ·rw [if_neg c12] at H
    exact absurd H (by simp)

/-! ### natural_subtract: function 77 -/
def natural_subtract.l0 : Nat → List Int → List Int → List Int → Int → Int → Int → Option (List Int)
 | 0, _, _, _, _, _, _ => none
 | k + 1, x0, x1, x5, x6, x13, x14 => if x14 < x13 then (if x14 < (x1.length : Int) then (if 0 ≤ x14 then (if x14 < (x0.length : Int) then ((bits_Sub32.f (rd x0 x14) (rd x1 x14) x6).bind fun bt378 => (if x14 < (x5.length : Int) then (natural_subtract.l0 k x0 x1 (x5.set (x14 : Int).toNat bt378.1) bt378.2 x13 (wrap64 (x14 + 1))) else (none))) else (none)) else (none)) else (if 0 ≤ x14 then (if x14 < (x0.length : Int) then ((bits_Sub32.f (rd x0 x14) 0 x6).bind fun bt382 => (if x14 < (x5.length : Int) then (natural_subtract.l0 k x0 x1 (x5.set (x14 : Int).toNat bt382.1) bt382.2 x13 (wrap64 (x14 + 1))) else (none))) else (none)) else (none))) else ((natural_limbs_trim.f k x5).bind fun t385 => (some t385))
def natural_subtract.f (k : Nat) (l0 : List Int) (l1 : List Int) : Option (List Int) := if 0 ≤ (l0.length : Int) then (if ((l0.length : Int) : Int).toNat ≤ 70368744177664 then (natural_subtract.l0 k l0 l1 (List.replicate ((l0.length : Int) : Int).toNat 0) 0 (l0.length : Int) 0) else (none)) else (none)
theorem natural_subtract.mono_l : ∀ k, (∀ y0 y1 y2 y3 y4 y5, LeO (natural_subtract.l0 k y0 y1 y2 y3 y4 y5) (natural_subtract.l0 (k + 1) y0 y1 y2 y3 y4 y5))
 | 0 => fun _ _ _ _ _ _ r h => by simp [natural_subtract.l0] at h
 | k + 1 => by
  have ih0 := natural_subtract.mono_l k
  ·intro y0 y1 y2 y3 y4 y5
   unfold natural_subtract.l0
   repeat' first
   | (with_reducible exact ih0 _ _ _ _ _ _)
   | (with_reducible exact natural_limbs_trim.mono _ _)
   | (with_reducible exact LeO.refl _)
   | (with_reducible exact LeO.none _)
   | (with_reducible refine LeO.ite ?_ ?_)
   | (with_reducible refine LeO.bind ?_ (fun _ => ?_))
   | exact LeO.none _
   | refine LeO.ite ?_ ?_
   | refine LeO.bind ?_ (fun _ => ?_)
theorem natural_subtract.mono : ∀ a0 a1 k, LeO (natural_subtract.f k a0 a1) (natural_subtract.f (k + 1) a0 a1) := by
 intro a0 a1 k
 have ih0 := natural_subtract.mono_l k
 unfold natural_subtract.f
 repeat' first
   | (with_reducible exact ih0 _ _ _ _ _ _)
   | (with_reducible exact natural_limbs_trim.mono _ _)
   | (with_reducible exact LeO.refl _)
   | (with_reducible exact LeO.none _)
   | (with_reducible refine LeO.ite ?_ ?_)
   | (with_reducible refine LeO.bind ?_ (fun _ => ?_))
   | exact LeO.none _
   | refine LeO.ite ?_ ?_
   | refine LeO.bind ?_ (fun _ => ?_)
set_option maxHeartbeats 8000000 in
set_option maxRecDepth 100000 in
theorem natural_subtract.calls (k : Nat) (A0 : Option Addr) (c0 : Nat) (l0 : List Int) (A1 : Option Addr) (c1 : Nat) (l1 : List Int) (r : List Int) (w : World) (hr0 : Kd.C (Kd.int .u32) w A0 l0.length l0) (hc0 : l0.length ≤ c0) (hr1 : Kd.C (Kd.int .u32) w A1 l1.length l1) (hc1 : l1.length ≤ c1) (h : natural_subtract.f k l0 l1 = some r) :
  Calls Tryd.prog 77 #[.slice A0 l0.length c0, .slice A1 l1.length c1] w fun e w' => ∃ v0_ : Value, e = .returned (v0_) ∧ Kd.V (Kd.int .u32) 86 w' w.heap.size (fun k_ => (w.heap.size ≤ k_)) v0_ r ∧ Below w.heap.size w w' := by
 have HR0 := Aside0.mk hr0
 have HC0 := Aside0.mk hc0
 clear hr0 hc0
 have HR1 := Aside0.mk hr1
 have HC1 := Aside0.mk hc1
 clear hr1 hc1
 have HB := aM (Below.refl w.heap.size w)
 have H : (if 0 ≤ (l0.length : Int) then (if ((l0.length : Int) : Int).toNat ≤ 70368744177664 then (natural_subtract.l0 k l0 l1 (List.replicate ((l0.length : Int) : Int).toNat 0) 0 (l0.length : Int) 0) else (none)) else (none)) = some r := h
 clear h
 by_cases c3 : 0 ≤ (l0.length : Int)
 ·rw [if_pos c3] at H
  have c3b0 := eq_true c3
  have c3b1 := decide_eq_true c3
  clear c3
  by_cases c4 : ((l0.length : Int) : Int).toNat ≤ 70368744177664
  ·rw [if_pos c4] at H
   have c4b0 := eq_true c4
   have c4b1 := decide_eq_true c4
   clear c4
   obtain ⟨y373, hy373⟩ : ∃ y_ : List Int, y_ = (List.replicate ((l0.length : Int) : Int).toNat 0) := ⟨_, rfl⟩
   replace H : (natural_subtract.l0 k l0 l1 y373 0 (l0.length : Int) 0) = some r := by first | (rw [hy373]; with_reducible exact H) | (have H2_ := (Option.bind_some _ _).symm.trans H; rw [hy373]; with_reducible exact H2_) | (have H2_ := (Option.bind_some _ _).symm.trans H; with_reducible exact H2_) | with_reducible exact H | (rw [hy373]; exact H) | exact H
   have Ny373 := Aside0.mk hy373
   clear hy373
   have H' := Aside0.mk H
   clear H
   go_enter Tryd.func77, Tryd.ntmps77
   go_wp2_with (first | ((with_reducible refine gate_dst (N := 11) rfl ?_); refine Kd.R_make (Kd.int .u32) _ 86 rfl (N := 11) rfl 84 _ _ rfl (l0.length : Int) rfl rfl Tryd.underlying84 (.int .u32 0) 4 info86 rfl (by decide) (by omega) 0 (ok := fun _ => True) (okp := fun _ => True) rfl (fun _ hk => hk) trivial (oD) (Nat.le_trans (Nat.mul_le_mul_right _ (oD : (l0.length : Int).toNat ≤ 70368744177664)) (by omega)) (Below.refl _ _) (Nat.le_refl _) ?_; intro v374 w5 ho6 hb hg_ hnew_; clear hg_ hnew_; (first | rw [← Ny373.out] at ho6 | (simp only [Int.reduceToNat] at ho6; rw [← Ny373.out] at ho6)); have n0_ := aM (Kd.R_lower (Kd.R_newM (M := fun k_ => (w.heap.size ≤ k_)) ho6 (below_size (bU HB.out)) (fun k_ h_ => h_)) (below_size (bU HB.out))); have n1_ := aM (below_step (bU HB.out) hb); clear HB; have HO375 := n0_; have HB := n1_; clear n0_ n1_; clear hb ho6))
   go_loopg [6, 14] k (fun kq v6 v14 w' => ∃ (x5_1 : List Int) (x6_1 : Int) (x14_1 : Int), v6 = .int .u32 x6_1 ∧ v14 = .int .i64 x14_1 ∧ Aside0 (natural_subtract.l0 kq l0 l1 x5_1 x6_1 (l0.length : Int) x14_1 = some r) ∧ Aside0 (kq ≤ k) ∧ Aside0 (Kd.R (Kd.int .u32) 86 w' w.heap.size (fun k_ => (w.heap.size ≤ k_)) v374 x5_1) ∧ Aside0 (Below w.heap.size w w'))
   case atStart => exact ⟨(y373), (0), (0), (by first | rfl | (simp; done) | (simp [*]; done)), (by first | rfl | (simp; done) | (simp [*]; done)), H', ⟨Nat.le_refl _⟩, ⟨Kd.R_up (Kd.R_mono HO375.out (fun _ hk => hk.1))⟩, ⟨bU HB.out⟩⟩
   case round =>
    clear H'
    (try clear c1); (try clear p2); (try clear c3); (try clear c3b0); (try clear c3b1); (try clear c4); (try clear c4b0); (try clear c4b1)
    obtain ⟨x5_1, x6_1, x14_1, rfl, rfl, HA, HK1, HO_5, HB⟩ := hrel
    cases gk with
    | zero => exact absurd HA.out (by simp [natural_subtract.l0])
    | succ k1 =>
     have H := HA.out
     clear HA
     simp only [natural_subtract.l0] at H
     by_cases c7 : x14_1 < (l0.length : Int)
     ·rw [if_pos c7] at H
      have c7b0 := decide_eq_true c7
      clear c7
      by_cases c8 : x14_1 < (l1.length : Int)
      ·rw [if_pos c8] at H
       have c8b0 := decide_eq_true c8
       clear c8
       by_cases c9 : 0 ≤ x14_1
       ·rw [if_pos c9] at H
        have c9b0 := decide_eq_true c9
        clear c9
        by_cases c10 : x14_1 < (l0.length : Int)
        ·rw [if_pos c10] at H
         have c10b0 := decide_eq_true c10
         clear c10
         replace H := bE H
         obtain ⟨⟨t378, t379⟩, A110, H⟩ := H
         replace H : (if x14_1 < (x5_1.length : Int) then (natural_subtract.l0 k1 l0 l1 (x5_1.set (x14_1 : Int).toNat t378) t379 (l0.length : Int) (wrap64 (x14_1 + 1))) else (none)) = some r := H
         have A11 := Aside0.mk A110
         clear A110
         by_cases c12 : x14_1 < (x5_1.length : Int)
         ·rw [if_pos c12] at H
          have c12b0 := decide_eq_true c12
          clear c12
          obtain ⟨y380, hy380⟩ : ∃ y_ : List Int, y_ = (x5_1.set (x14_1 : Int).toNat t378) := ⟨_, rfl⟩
          replace H : (natural_subtract.l0 k1 l0 l1 y380 t379 (l0.length : Int) (wrap64 (x14_1 + 1))) = some r := by first | (rw [hy380]; with_reducible exact H) | (have H2_ := (Option.bind_some _ _).symm.trans H; rw [hy380]; with_reducible exact H2_) | (have H2_ := (Option.bind_some _ _).symm.trans H; with_reducible exact H2_) | with_reducible exact H | (rw [hy380]; exact H) | exact H
          have Ny380 := Aside0.mk hy380
          clear hy380
          have H' := Aside0.mk H
          clear H
          have p376 : 0 ≤ (x14_1 : Int) := oD
          have q376 : x14_1 < (l1.length : Int) := oD
          obtain ⟨ad376, e376, hx376_0⟩ := Kd.at_int HR1.out x14_1 p376 q376
          cases e376
          replace hx376_0 := (HB.out.cell (World.block_lt_of_cell? w _ hx376_0)).trans hx376_0
          replace p376 := eq_true p376
          replace q376 := eq_true q376
          have p377 : 0 ≤ (x14_1 : Int) := oD
          have q377 : x14_1 < (l0.length : Int) := oD
          obtain ⟨ad377, e377, hx377_0⟩ := Kd.at_int HR0.out x14_1 p377 q377
          cases e377
          replace hx377_0 := (HB.out.cell (World.block_lt_of_cell? w _ hx377_0)).trans hx377_0
          replace p377 := eq_true p377
          replace q377 := eq_true q377
          go_wp2_with (first | ((with_reducible refine gate_callee (f := 90) rfl ?_); refine goesLq (some 34) rfl rfl Tryd.func90 #[.int .u32 (rd l0 x14_1), .int .u32 (rd l1 x14_1), .int .u32 x6_1] rfl ?_; (with_reducible refine (bits_Sub32.calls (rd l0 x14_1) (rd l1 x14_1) x6_1 t378 t379 _ A11.out).mono ?_); rintro e w' ⟨rfl, ⟨nd, rfl⟩⟩; refine ⟨_, rfl, ?_⟩; (try (rw [drewN_self wr]; generalize hq_ : World.drewN wr _ = wr; have n0_ : Aside0 (Kd.R (Kd.int .u32) 86 wr w.heap.size (fun k_ => (w.heap.size ≤ k_)) v374 x5_1) := ⟨by rw [← hq_]; exact (Kd.R_up HO_5.out)⟩; have n1_ : Aside0 (Below w.heap.size w wr) := ⟨by rw [← hq_]; exact (bU HB.out)⟩; clear HO_5 HB hq_; have HO_5 := n0_; have HB := n1_; clear n0_ n1_)); have p13 : 0 ≤ (x14_1 : Int) := oD; have q13 : (x14_1 : Int) < ((x5_1.length : Int) : Int) := oD; obtain ⟨go13, co13, eo13, gb13, gl13, cl13, HG13⟩ := Kd.R_form HO_5.out (by omega); (first | cases eo13 | (injection eo13 with ea_ en_ ec_; (first | subst ea_ | (injection ea_ with ea_; subst ea_)); subst ec_; clear en_)); have GB13 := Aside0.mk gb13; have GG13 := Aside0.mk HG13; clear gb13 gl13 HG13; obtain ⟨hx13_0, hf13_0⟩ := Kd.R_celln 0 HO_5.out (x14_1 : Int) p13 q13; replace p13 := eq_true p13; replace q13 := eq_true q13; obtain ⟨hy14_, hz14_⟩ := Kd.R_celln 0 HO_5.out (x14_1 : Int) (oD) (oD); have HP14 := Kd.R_putg HO_5.out (x14_1 : Int) t378) | ((with_reducible refine gate_store (t := 86) (p := 37) rfl ?_); refine store_event (t := 86) (p := 37) (v := ?vo_w15) (w1 := (wr.setCell ⟨go13, (x14_1 : Int).toNat, none⟩ (.int .u32 t378))) ?hg ?ho ?hn ?hr ?_; (case ho => rfl); (case hg => rfl); (case hn => rfl); (case hr => first | (go_simp; done) | (go_simp; rfl)); intro w15 hw; have hg : wr.grownBy w15 (some go13) := (by rw [hw]; exact HP14.2); have hp_ : Kd.R (Kd.int .u32) 86 w15 w.heap.size (fun k_ => (w.heap.size ≤ k_)) (.slice (some ⟨go13, 0, none⟩) x5_1.length co13) y380 := (by rw [hw, Ny380.out]; exact HP14.1); clear HP14; have n0_ := aM (hp_); have n1_ := aM ((by rw [hw]; exact below_set (HB.out) GB13.out : Below w.heap.size w w15)); clear HO_5; clear HB; have HO_5 := n0_; have HB := n1_; clear n0_ n1_; clear hg hw hp_))
          go_roundg k1
          case measure => have := HK1.out; omega
          case rel => exact ⟨(y380), (t379), (wrap64 (x14_1 + 1)), (by first | rfl | (simp; done) | (simp [*]; done)), (by first | rfl | (simp; done) | (simp [*]; done)), H', ⟨by have := HK1.out; omega⟩, ⟨Kd.R_up HO_5.out⟩, ⟨bU HB.out⟩⟩
         ·rw [if_neg c12] at H
          exact absurd H (by simp)
        ·rw [if_neg c10] at H
         exact absurd H (by simp)
       ·rw [if_neg c9] at H
        exact absurd H (by simp)
      ·rw [if_neg c8] at H
       have c8b0 := decide_eq_false c8
       clear c8
       by_cases c16 : 0 ≤ x14_1
       ·rw [if_pos c16] at H
        have c16b0 := decide_eq_true c16
        clear c16
        by_cases c17 : x14_1 < (l0.length : Int)
        ·rw [if_pos c17] at H
         have c17b0 := decide_eq_true c17
         clear c17
         replace H := bE H
         obtain ⟨⟨t382, t383⟩, A180, H⟩ := H
         replace H : (if x14_1 < (x5_1.length : Int) then (natural_subtract.l0 k1 l0 l1 (x5_1.set (x14_1 : Int).toNat t382) t383 (l0.length : Int) (wrap64 (x14_1 + 1))) else (none)) = some r := H
         have A18 := Aside0.mk A180
         clear A180
         by_cases c19 : x14_1 < (x5_1.length : Int)
         ·rw [if_pos c19] at H
          have c19b0 := decide_eq_true c19
          clear c19
          obtain ⟨y384, hy384⟩ : ∃ y_ : List Int, y_ = (x5_1.set (x14_1 : Int).toNat t382) := ⟨_, rfl⟩
          replace H : (natural_subtract.l0 k1 l0 l1 y384 t383 (l0.length : Int) (wrap64 (x14_1 + 1))) = some r := by first | (rw [hy384]; with_reducible exact H) | (have H2_ := (Option.bind_some _ _).symm.trans H; rw [hy384]; with_reducible exact H2_) | (have H2_ := (Option.bind_some _ _).symm.trans H; with_reducible exact H2_) | with_reducible exact H | (rw [hy384]; exact H) | exact H
          have Ny384 := Aside0.mk hy384
          clear hy384
          have H' := Aside0.mk H
          clear H
          have p381 : 0 ≤ (x14_1 : Int) := oD
          have q381 : x14_1 < (l0.length : Int) := oD
          obtain ⟨ad381, e381, hx381_0⟩ := Kd.at_int HR0.out x14_1 p381 q381
          cases e381
          replace hx381_0 := (HB.out.cell (World.block_lt_of_cell? w _ hx381_0)).trans hx381_0
          replace p381 := eq_true p381
          replace q381 := eq_true q381
          go_wp2_with (first | ((with_reducible refine gate_callee (f := 90) rfl ?_); refine goesLq (some 34) rfl rfl Tryd.func90 #[.int .u32 (rd l0 x14_1), .int .u32 0, .int .u32 x6_1] rfl ?_; (with_reducible refine (bits_Sub32.calls (rd l0 x14_1) 0 x6_1 t382 t383 _ A18.out).mono ?_); rintro e w' ⟨rfl, ⟨nd, rfl⟩⟩; refine ⟨_, rfl, ?_⟩; (try (rw [drewN_self wr]; generalize hq_ : World.drewN wr _ = wr; have n0_ : Aside0 (Kd.R (Kd.int .u32) 86 wr w.heap.size (fun k_ => (w.heap.size ≤ k_)) v374 x5_1) := ⟨by rw [← hq_]; exact (Kd.R_up HO_5.out)⟩; have n1_ : Aside0 (Below w.heap.size w wr) := ⟨by rw [← hq_]; exact (bU HB.out)⟩; clear HO_5 HB hq_; have HO_5 := n0_; have HB := n1_; clear n0_ n1_)); have p20 : 0 ≤ (x14_1 : Int) := oD; have q20 : (x14_1 : Int) < ((x5_1.length : Int) : Int) := oD; obtain ⟨go20, co20, eo20, gb20, gl20, cl20, HG20⟩ := Kd.R_form HO_5.out (by omega); (first | cases eo20 | (injection eo20 with ea_ en_ ec_; (first | subst ea_ | (injection ea_ with ea_; subst ea_)); subst ec_; clear en_)); have GB20 := Aside0.mk gb20; have GG20 := Aside0.mk HG20; clear gb20 gl20 HG20; obtain ⟨hx20_0, hf20_0⟩ := Kd.R_celln 0 HO_5.out (x14_1 : Int) p20 q20; replace p20 := eq_true p20; replace q20 := eq_true q20; obtain ⟨hy21_, hz21_⟩ := Kd.R_celln 0 HO_5.out (x14_1 : Int) (oD) (oD); have HP21 := Kd.R_putg HO_5.out (x14_1 : Int) t382) | ((with_reducible refine gate_store (t := 86) (p := 37) rfl ?_); refine store_event (t := 86) (p := 37) (v := ?vo_w22) (w1 := (wr.setCell ⟨go20, (x14_1 : Int).toNat, none⟩ (.int .u32 t382))) ?hg ?ho ?hn ?hr ?_; (case ho => rfl); (case hg => rfl); (case hn => rfl); (case hr => first | (go_simp; done) | (go_simp; rfl)); intro w22 hw; have hg : wr.grownBy w22 (some go20) := (by rw [hw]; exact HP21.2); have hp_ : Kd.R (Kd.int .u32) 86 w22 w.heap.size (fun k_ => (w.heap.size ≤ k_)) (.slice (some ⟨go20, 0, none⟩) x5_1.length co20) y384 := (by rw [hw, Ny384.out]; exact HP21.1); clear HP21; have n0_ := aM (hp_); have n1_ := aM ((by rw [hw]; exact below_set (HB.out) GB20.out : Below w.heap.size w w22)); clear HO_5; clear HB; have HO_5 := n0_; have HB := n1_; clear n0_ n1_; clear hg hw hp_))
          go_roundg k1
          case measure => have := HK1.out; omega
          case rel => exact ⟨(y384), (t383), (wrap64 (x14_1 + 1)), (by first | rfl | (simp; done) | (simp [*]; done)), (by first | rfl | (simp; done) | (simp [*]; done)), H', ⟨by have := HK1.out; omega⟩, ⟨Kd.R_up HO_5.out⟩, ⟨bU HB.out⟩⟩
         ·rw [if_neg c19] at H
          exact absurd H (by simp)
        ·rw [if_neg c17] at H
         exact absurd H (by simp)
       ·rw [if_neg c16] at H
        exact absurd H (by simp)
     ·rw [if_neg c7] at H
      have c7b0 := decide_eq_false c7
      clear c7
      replace H := bE H
      obtain ⟨t385, A230, H⟩ := H
      replace H : (some t385) = some r := H
      have A23 := Aside0.mk A230
      clear A230
      obtain rfl := Option.some.inj H
      obtain ⟨Ao24, co24, eo24⟩ := Kd.R_slice HO_5.out
      subst eo24
      go_wp2_with (first | ((with_reducible refine gate_callee (f := 74) rfl ?_); refine goesLq (some 40) rfl rfl Tryd.func74 #[.slice Ao24 x5_1.length co24] rfl ?_; (with_reducible refine (natural_limbs_trim.calls k1 (fun k_ => some k_ = (.slice Ao24 x5_1.length co24 : Value).ownBlock) _ _ x5_1 t385 _ ?side1 A23.out).mono ?_); (case side1 => exact Kd.R_V (Kd.R_tight rfl (HO_5.out))); rintro e w25 ⟨v386, rfl, ho0, hb⟩; refine ⟨_, rfl, ?_⟩; have n0_ := aM (Kd.R_below (Kd.R_up HO_5.out) hb); have n1_ := aM (Kd.V_lower (Kd.V_mono (ok' := fun k_ => (w.heap.size ≤ k_)) ho0 (fun k_ hk_ => Or.elim hk_ (fun hs_ => ((HO_5.out).1 k_ hs_.symm)) (fun hn_ => (Nat.le_trans (below_size (bU HB.out)) hn_)))) (below_size (bU HB.out))); have n2_ := aM (below_step (bU HB.out) hb); clear HO_5; clear HB; have HO_5 := n0_; have HO387 := n1_; have HB := n2_; clear n0_ n1_ n2_; (try clear hb); (try clear hb2); (try clear hk); (try clear hi); (try clear ho0)))
      go_ret
      exact ⟨_, by first | rfl | (simp [errW_none, errW_some] <;> rfl) | (simp [*, errW_none, errW_some] <;> rfl), Kd.V_up HO387.out, bU HB.out⟩
  ·rw [if_neg c4] at H
   exact absurd H (by simp)
 ·rw [if_neg c3] at H
  exact absurd H (by simp)

/-! ### natural_Subtract: function 57 -/
def natural_Subtract.f (k : Nat) (a0 : ByteArray) (a1 : ByteArray) : Option (ByteArray × Bool) := (natural_parse.f k a0).bind fun t388 => ((natural_parse.f k a1).bind fun t391 => ((natural_compare.f k t388 t391).bind fun t394 => (if t394 < 0 then (some ((⟨#[]⟩ : ByteArray), false)) else ((natural_subtract.f k t388 t391).bind fun t395 => ((natural_limbs_text.f k t395).bind fun t398 => (some (t398, true)))))))
theorem natural_Subtract.mono : ∀ a0 a1 k, LeO (natural_Subtract.f k a0 a1) (natural_Subtract.f (k + 1) a0 a1) := by
 intro a0 a1 k
 unfold natural_Subtract.f
 repeat' first
   | (with_reducible exact natural_compare.mono _ _ _)
   | (with_reducible exact natural_limbs_text.mono _ _)
   | (with_reducible exact natural_parse.mono _ _)
   | (with_reducible exact natural_subtract.mono _ _ _)
   | (with_reducible exact LeO.refl _)
   | (with_reducible exact LeO.none _)
   | (with_reducible refine LeO.ite ?_ ?_)
   | (with_reducible refine LeO.bind ?_ (fun _ => ?_))
   | exact LeO.none _
   | refine LeO.ite ?_ ?_
   | refine LeO.bind ?_ (fun _ => ?_)
set_option maxHeartbeats 8000000 in
set_option maxRecDepth 100000 in
theorem natural_Subtract.calls (k : Nat) (a0 : ByteArray) (a1 : ByteArray) (r1 : ByteArray) (r2 : Bool) (w : World) (h : natural_Subtract.f k a0 a1 = some (r1, r2)) :
  Calls Tryd.prog 57 #[.string a0, .string a1] w fun e w' => e = .returned (.tuple #[.string r1, .bool r2]) ∧ Below w.heap.size w w' := by
 have HB := aM (Below.refl w.heap.size w)
 have H : ((natural_parse.f k a0).bind fun t388 => ((natural_parse.f k a1).bind fun t391 => ((natural_compare.f k t388 t391).bind fun t394 => (if t394 < 0 then (some ((⟨#[]⟩ : ByteArray), false)) else ((natural_subtract.f k t388 t391).bind fun t395 => ((natural_limbs_text.f k t395).bind fun t398 => (some (t398, true)))))))) = some (r1, r2) := h
 clear h
 replace H := bE H
 obtain ⟨t388, A30, H⟩ := H
 replace H : ((natural_parse.f k a1).bind fun t391 => ((natural_compare.f k t388 t391).bind fun t394 => (if t394 < 0 then (some ((⟨#[]⟩ : ByteArray), false)) else ((natural_subtract.f k t388 t391).bind fun t395 => ((natural_limbs_text.f k t395).bind fun t398 => (some (t398, true))))))) = some (r1, r2) := H
 have A3 := Aside0.mk A30
 clear A30
 replace H := bE H
 obtain ⟨t391, A40, H⟩ := H
 replace H : ((natural_compare.f k t388 t391).bind fun t394 => (if t394 < 0 then (some ((⟨#[]⟩ : ByteArray), false)) else ((natural_subtract.f k t388 t391).bind fun t395 => ((natural_limbs_text.f k t395).bind fun t398 => (some (t398, true)))))) = some (r1, r2) := H
 have A4 := Aside0.mk A40
 clear A40
 replace H := bE H
 obtain ⟨t394, A50, H⟩ := H
 replace H : (if t394 < 0 then (some ((⟨#[]⟩ : ByteArray), false)) else ((natural_subtract.f k t388 t391).bind fun t395 => ((natural_limbs_text.f k t395).bind fun t398 => (some (t398, true))))) = some (r1, r2) := H
 have A5 := Aside0.mk A50
 clear A50
 by_cases c6 : t394 < 0
 ·rw [if_pos c6] at H
  have c6b0 := decide_eq_true c6
  clear c6
  simp only [Option.some.injEq, Prod.mk.injEq] at H
  obtain ⟨rfl, rfl⟩ := H
  go_enter Tryd.func57, Tryd.ntmps57
  go_wp2_with (first | ((with_reducible refine gate_callee (f := 54) rfl ?_); refine goesLq (some 9) rfl rfl Tryd.func54 #[.string a0] rfl ?_; (with_reducible refine (natural_parse.calls k a0 t388 _ A3.out).mono ?_); rintro e w7 ⟨v389, rfl, ho0, hb⟩; refine ⟨_, rfl, ?_⟩; have n0_ := aM (Kd.V_lower (Kd.V_mono (ok' := fun k_ => True) ho0 (fun k_ hk_ => trivial)) (below_size (bU HB.out))); have n1_ := aM (below_step (bU HB.out) hb); clear HB; have HO390 := n0_; have HB := n1_; clear n0_ n1_; (try clear hb); (try clear hb2); (try clear hk); (try clear hi); (try clear ho0)) | ((with_reducible refine gate_callee (f := 54) rfl ?_); refine goesLq (some 11) rfl rfl Tryd.func54 #[.string a1] rfl ?_; (with_reducible refine (natural_parse.calls k a1 t391 _ A4.out).mono ?_); rintro e w8 ⟨v392, rfl, ho0, hb⟩; refine ⟨_, rfl, ?_⟩; have n0_ := aM (Kd.V_below (Kd.V_up HO390.out) hb); have n1_ := aM (Kd.V_lower (Kd.V_mono (ok' := fun k_ => True) ho0 (fun k_ hk_ => trivial)) (below_size (bU HB.out))); have n2_ := aM (below_step (bU HB.out) hb); clear HO390; clear HB; have HO390 := n0_; have HO393 := n1_; have HB := n2_; clear n0_ n1_ n2_; (try clear hb); (try clear hb2); (try clear hk); (try clear hi); (try clear ho0); obtain ⟨Ao9, co9, eo9⟩ := Kd.V_slice HO390.out; subst eo9; obtain ⟨Ao10, co10, eo10⟩ := Kd.V_slice HO393.out; subst eo10) | ((with_reducible refine gate_callee (f := 76) rfl ?_); refine goesLq (some 14) rfl rfl Tryd.func76 #[.slice Ao9 t388.length co9, .slice Ao10 t391.length co10] rfl ?_; (with_reducible refine (natural_compare.calls k _ _ t388 _ _ t391 t394 _ ?side1 ?side2 ?side3 ?side4 A5.out).mono ?_); (case side1 => exact Kd.C_up (Kd.V_reads' HO390.out).2.2); (case side2 => exact (Kd.V_reads' HO390.out).2.1); (case side3 => exact Kd.C_up (Kd.V_reads' HO393.out).2.2); (case side4 => exact (Kd.V_reads' HO393.out).2.1); rintro e w' ⟨rfl, ⟨nd, rfl⟩⟩; refine ⟨_, rfl, ?_⟩))
  go_ret2
  exact ⟨by first | rfl | (simp [errW_none, errW_some] <;> rfl) | (simp [*, errW_none, errW_some] <;> rfl), bU HB.out⟩
 ·rw [if_neg c6] at H
  have c6b0 := decide_eq_false c6
  clear c6
  replace H := bE H
  obtain ⟨t395, A110, H⟩ := H
  replace H : ((natural_limbs_text.f k t395).bind fun t398 => (some (t398, true))) = some (r1, r2) := H
  have A11 := Aside0.mk A110
  clear A110
  replace H := bE H
  obtain ⟨t398, A120, H⟩ := H
  replace H : (some (t398, true)) = some (r1, r2) := H
  have A12 := Aside0.mk A120
  clear A120
  simp only [Option.some.injEq, Prod.mk.injEq] at H
  obtain ⟨rfl, rfl⟩ := H
  go_enter Tryd.func57, Tryd.ntmps57
  go_wp2_with (first | ((with_reducible refine gate_callee (f := 54) rfl ?_); refine goesLq (some 9) rfl rfl Tryd.func54 #[.string a0] rfl ?_; (with_reducible refine (natural_parse.calls k a0 t388 _ A3.out).mono ?_); rintro e w13 ⟨v389, rfl, ho0, hb⟩; refine ⟨_, rfl, ?_⟩; have n0_ := aM (Kd.V_lower (Kd.V_mono (ok' := fun k_ => True) ho0 (fun k_ hk_ => trivial)) (below_size (bU HB.out))); have n1_ := aM (below_step (bU HB.out) hb); clear HB; have HO390 := n0_; have HB := n1_; clear n0_ n1_; (try clear hb); (try clear hb2); (try clear hk); (try clear hi); (try clear ho0)) | ((with_reducible refine gate_callee (f := 54) rfl ?_); refine goesLq (some 11) rfl rfl Tryd.func54 #[.string a1] rfl ?_; (with_reducible refine (natural_parse.calls k a1 t391 _ A4.out).mono ?_); rintro e w14 ⟨v392, rfl, ho0, hb⟩; refine ⟨_, rfl, ?_⟩; have n0_ := aM (Kd.V_below (Kd.V_up HO390.out) hb); have n1_ := aM (Kd.V_lower (Kd.V_mono (ok' := fun k_ => True) ho0 (fun k_ hk_ => trivial)) (below_size (bU HB.out))); have n2_ := aM (below_step (bU HB.out) hb); clear HO390; clear HB; have HO390 := n0_; have HO393 := n1_; have HB := n2_; clear n0_ n1_ n2_; (try clear hb); (try clear hb2); (try clear hk); (try clear hi); (try clear ho0); obtain ⟨Ao15, co15, eo15⟩ := Kd.V_slice HO390.out; subst eo15; obtain ⟨Ao16, co16, eo16⟩ := Kd.V_slice HO393.out; subst eo16) | ((with_reducible refine gate_callee (f := 76) rfl ?_); refine goesLq (some 14) rfl rfl Tryd.func76 #[.slice Ao15 t388.length co15, .slice Ao16 t391.length co16] rfl ?_; (with_reducible refine (natural_compare.calls k _ _ t388 _ _ t391 t394 _ ?side1 ?side2 ?side3 ?side4 A5.out).mono ?_); (case side1 => exact Kd.C_up (Kd.V_reads' HO390.out).2.2); (case side2 => exact (Kd.V_reads' HO390.out).2.1); (case side3 => exact Kd.C_up (Kd.V_reads' HO393.out).2.2); (case side4 => exact (Kd.V_reads' HO393.out).2.1); rintro e w' ⟨rfl, ⟨nd, rfl⟩⟩; refine ⟨_, rfl, ?_⟩) | ((with_reducible refine gate_callee (f := 77) rfl ?_); refine goesLq (some 18) rfl rfl Tryd.func77 #[.slice Ao15 t388.length co15, .slice Ao16 t391.length co16] rfl ?_; (with_reducible refine (natural_subtract.calls k _ _ t388 _ _ t391 t395 _ ?side1 ?side2 ?side3 ?side4 A11.out).mono ?_); (case side1 => exact Kd.C_up (Kd.V_reads' HO390.out).2.2); (case side2 => exact (Kd.V_reads' HO390.out).2.1); (case side3 => exact Kd.C_up (Kd.V_reads' HO393.out).2.2); (case side4 => exact (Kd.V_reads' HO393.out).2.1); rintro e w17 ⟨v396, rfl, ho0, hb⟩; refine ⟨_, rfl, ?_⟩; have n0_ := aM (Kd.V_below (Kd.V_up HO390.out) hb); have n1_ := aM (Kd.V_below (Kd.V_up HO393.out) hb); have n2_ := aM (Kd.V_lower (Kd.V_mono (ok' := fun k_ => True) ho0 (fun k_ hk_ => trivial)) (below_size (bU HB.out))); have n3_ := aM (below_step (bU HB.out) hb); clear HO390; clear HO393; clear HB; have HO390 := n0_; have HO393 := n1_; have HO397 := n2_; have HB := n3_; clear n0_ n1_ n2_ n3_; (try clear hb); (try clear hb2); (try clear hk); (try clear hi); (try clear ho0); obtain ⟨Ao18, co18, eo18⟩ := Kd.V_slice HO397.out; subst eo18) | ((with_reducible refine gate_callee (f := 55) rfl ?_); refine goesLq (some 19) rfl rfl Tryd.func55 #[.slice Ao18 t395.length co18] rfl ?_; (with_reducible refine (natural_limbs_text.calls k _ _ t395 t398 _ ?side1 ?side2 A12.out).mono ?_); (case side1 => exact Kd.C_up (Kd.V_reads' HO397.out).2.2); (case side2 => exact (Kd.V_reads' HO397.out).2.1); rintro e w19 ⟨rfl, hb⟩; refine ⟨_, rfl, ?_⟩; have n0_ := aM (Kd.V_below (Kd.V_up HO390.out) hb); have n1_ := aM (Kd.V_below (Kd.V_up HO393.out) hb); have n2_ := aM (Kd.V_below (Kd.V_up HO397.out) hb); have n3_ := aM (below_step (bU HB.out) hb); clear HO390; clear HO393; clear HO397; clear HB; have HO390 := n0_; have HO393 := n1_; have HO397 := n2_; have HB := n3_; clear n0_ n1_ n2_ n3_; (try clear hb); (try clear hb2); (try clear hk); (try clear hi)))
  go_ret2
  exact ⟨by first | rfl | (simp [errW_none, errW_some] <;> rfl) | (simp [*, errW_none, errW_some] <;> rfl), bU HB.out⟩

end Go.Proofs.YtjeamaahhpbbkaaDoor.PAll
