-- PRINTED by a session's own changed print
import Derived.Test.YtjeamaahhpbbkaaDoorPAllx0
import Derived.Test.YtjeamaahhpbbkaaDoorPAllx17
import Derived.Test.YtjeamaahhpbbkaaDoorPAllx18
namespace Go.Proofs.YtjeamaahhpbbkaaDoor.PAll
open Go.RowKit Go.Proofs.YtjeamaahhpbbkaaDoorW.PrintWords Go.Proofs.YtjeamaahhpbbkaaDoorW.PrintLast
set_option linter.unusedVariables false
set_option linter.unusedSimpArgs false

/-! ### party_Connected: function 19 -/
def party_Connected.f (k : Nat) (l0_0 : List Int) (l0_1 : List (S36)) (l0_2 : List (S38)) (a1 : Int) (a2 : Int) : Option (Bool × Int) := (party_Controls.f k l0_0 l0_1 l0_2 a1 a2).bind fun bt612 => (if bt612.2 = 0 then ((party_connected.f k l0_0 l0_1 l0_2 a1).bind fun t614 => (if 0 ≤ a2 then (if a2 < (t614.length : Int) then (some (rdOf false t614 a2, 0)) else (none)) else (none))) else (some (false, bt612.2)))
set_option maxHeartbeats 8000000 in
set_option maxRecDepth 100000 in
theorem party_Connected.calls (k : Nat) (A0_0 : Option Addr) (c0_0 : Nat) (l0_0 : List Int) (A0_1 : Option Addr) (c0_1 : Nat) (l0_1 : List (S36)) (A0_2 : Option Addr) (c0_2 : Nat) (l0_2 : List (S38)) (a1 : Int) (a2 : Int) (r1 : Bool) (r2 : Int) (w : World) (hr0_0 : Kd.C (Kd.int .i64) w A0_0 l0_0.length l0_0) (hc0_0 : l0_0.length ≤ c0_0) (hr0_1 : Kd.C k36 w A0_1 l0_1.length l0_1) (hc0_1 : l0_1.length ≤ c0_1) (hr0_2 : Kd.C k38 w A0_2 l0_2.length l0_2) (hc0_2 : l0_2.length ≤ c0_2) (h : party_Connected.f k l0_0 l0_1 l0_2 a1 a2 = some (r1, r2)) :
  Calls Tryd.prog 19 #[.agg #[.slice A0_0 l0_0.length c0_0, .slice A0_1 l0_1.length c0_1, .slice A0_2 l0_2.length c0_2], .int .i64 a1, .int .i64 a2] w fun e w' => e = .returned (.tuple #[.bool r1, .int .i64 r2]) ∧ Below w.heap.size w w' := by
 have hu26 := Tryd.underlying26
 have HR0_0 := Aside0.mk hr0_0
 have HC0_0 := Aside0.mk hc0_0
 clear hr0_0 hc0_0
 have HR0_1 := Aside0.mk hr0_1
 have HC0_1 := Aside0.mk hc0_1
 clear hr0_1 hc0_1
 have HR0_2 := Aside0.mk hr0_2
 have HC0_2 := Aside0.mk hc0_2
 clear hr0_2 hc0_2
 have HB := aM (Below.refl w.heap.size w)
 have H : ((party_Controls.f k l0_0 l0_1 l0_2 a1 a2).bind fun bt612 => (if bt612.2 = 0 then ((party_connected.f k l0_0 l0_1 l0_2 a1).bind fun t614 => (if 0 ≤ a2 then (if a2 < (t614.length : Int) then (some (rdOf false t614 a2, 0)) else (none)) else (none))) else (some (false, bt612.2)))) = some (r1, r2) := h
 clear h
 replace H := bE H
 obtain ⟨⟨t612, t613⟩, A40, H⟩ := H
 replace H : (if t613 = 0 then ((party_connected.f k l0_0 l0_1 l0_2 a1).bind fun t614 => (if 0 ≤ a2 then (if a2 < (t614.length : Int) then (some (rdOf false t614 a2, 0)) else (none)) else (none))) else (some (false, t613))) = some (r1, r2) := H
 have A4 := Aside0.mk A40
 clear A40
 by_cases c5 : t613 = 0
 ·rw [if_pos c5] at H
  have c5b0 : (t613 == 0) = true := beq_iff_eq.mpr c5
  have c5b1 : (t613 != 0) = false := bne_eq_false_iff_eq.mpr c5
  clear c5
  replace H := bE H
  obtain ⟨t614, A60, H⟩ := H
  replace H : (if 0 ≤ a2 then (if a2 < (t614.length : Int) then (some (rdOf false t614 a2, 0)) else (none)) else (none)) = some (r1, r2) := H
  have A6 := Aside0.mk A60
  clear A60
  by_cases c7 : 0 ≤ a2
  ·rw [if_pos c7] at H
   have c7b0 := decide_eq_true c7
   clear c7
   by_cases c8 : a2 < (t614.length : Int)
   ·rw [if_pos c8] at H
    have c8b0 := decide_eq_true c8
    clear c8
    simp only [Option.some.injEq, Prod.mk.injEq] at H
    obtain ⟨rfl, rfl⟩ := H
    go_enter Tryd.func19, Tryd.ntmps19
    go_wp2_with (first | ((with_reducible refine gate_dst (N := 3) rfl ?_); refine box_event ?hg (N := 3) ?hd (cs := #[.slice A0_0 l0_0.length c0_0, .slice A0_1 l0_1.length c0_1, .slice A0_2 l0_2.length c0_2]) (t := 26) ?hr ?_; (case hd => rfl); (case hg => rfl); (case hr => first | (go_simp; done) | (go_simp; rfl)); intro gb611 hg w9 hbox hb; have n0_ := aM (below_step (bU HB.out) hb); have n1_ := aM (hbox); have n2_ := aM ((by rw [hg]; exact (below_size (bU HB.out)) : w.heap.size ≤ gb611)); have n3_ := aM ((by rw [hg]; exact (below_size (bU HB.out)) : w.heap.size ≤ gb611)); clear HB; have HB := n0_; have BK611 := n1_; have GW611 := n2_; have GE611 := n3_; clear n0_ n1_ n2_ n3_; clear hb hbox hg; obtain ⟨hcz10_0, hcz10_1, hcz10_2, hfz10_0, hfz10_1, hfz10_2⟩ := cz3 BK611.out) | ((with_reducible refine gate_callee (f := 18) rfl ?_); refine goesLq (some 14) rfl rfl Tryd.func18 #[.agg #[.slice A0_0 l0_0.length c0_0, .slice A0_1 l0_1.length c0_1, .slice A0_2 l0_2.length c0_2], .int .i64 a1, .int .i64 a2] rfl ?_; (with_reducible refine (party_Controls.calls k _ _ l0_0 _ _ l0_1 _ _ l0_2 a1 a2 t612 t613 _ ?side1 ?side2 ?side3 ?side4 ?side5 ?side6 A4.out).mono ?_); (case side1 => exact Kd.C_up (Kd.C_below HR0_0.out HB.out)); (case side2 => exact HC0_0.out); (case side3 => exact Kd.C_up (Kd.C_below HR0_1.out HB.out)); (case side4 => exact HC0_1.out); (case side5 => exact Kd.C_up (Kd.C_below HR0_2.out HB.out)); (case side6 => exact HC0_2.out); rintro e w11 ⟨rfl, hb⟩; refine ⟨_, rfl, ?_⟩; have n0_ := aM (blk_below (kU BK611.out) hb); have n1_ := aM (below_step (bU HB.out) hb); clear BK611; clear HB; have BK611 := n0_; have HB := n1_; clear n0_ n1_; (try clear hb); (try clear hb2); (try clear hk); (try clear hi); obtain ⟨hcz12_0, hcz12_1, hcz12_2, hfz12_0, hfz12_1, hfz12_2⟩ := cz3 BK611.out) | ((with_reducible refine gate_callee (f := 37) rfl ?_); refine goesLq (some 22) rfl rfl Tryd.func37 #[.agg #[.slice A0_0 l0_0.length c0_0, .slice A0_1 l0_1.length c0_1, .slice A0_2 l0_2.length c0_2], .int .i64 a1] rfl ?_; (with_reducible refine (party_connected.calls k _ _ l0_0 _ _ l0_1 _ _ l0_2 a1 t614 _ ?side1 ?side2 ?side3 ?side4 ?side5 ?side6 A6.out).mono ?_); (case side1 => exact Kd.C_up (Kd.C_below HR0_0.out HB.out)); (case side2 => exact HC0_0.out); (case side3 => exact Kd.C_up (Kd.C_below HR0_1.out HB.out)); (case side4 => exact HC0_1.out); (case side5 => exact Kd.C_up (Kd.C_below HR0_2.out HB.out)); (case side6 => exact HC0_2.out); rintro e w13 ⟨v615, rfl, ho0, hb⟩; refine ⟨_, rfl, ?_⟩; have n0_ := aM (Kd.R_lower ho0 (below_size (bU HB.out))); have n1_ := aM (blk_below (kU BK611.out) hb); have n2_ := aM (below_step (bU HB.out) hb); clear BK611; clear HB; have HO616 := n0_; have BK611 := n1_; have HB := n2_; clear n0_ n1_ n2_; (try clear hb); (try clear hb2); (try clear hk); (try clear hi); (try clear ho0); obtain ⟨Ao14, co14, eo14⟩ := Kd.R_slice HO616.out; subst eo14; have p617 : 0 ≤ (a2 : Int) := oD; have q617 : a2 < (t614.length : Int) := oD; obtain ⟨ad617, e617, hx617_0⟩ := Kd.at_bool (Kd.R_reads' HO616.out).2.2 a2 p617 q617; cases e617; replace p617 := eq_true p617; replace q617 := eq_true q617))
    go_ret2
    exact ⟨by first | rfl | (simp [errW_none, errW_some] <;> rfl) | (simp [*, errW_none, errW_some] <;> rfl), bU HB.out⟩
   ·rw [if_neg c8] at H
    exact absurd H (by simp)
  ·rw [if_neg c7] at H
   exact absurd H (by simp)
 ·rw [if_neg c5] at H
  have c5b0 : (t613 == 0) = false := beq_eq_false_iff_ne.mpr c5
  have c5b1 : (t613 != 0) = true := bne_iff_ne.mpr c5
  simp only [Option.some.injEq, Prod.mk.injEq] at H
  obtain ⟨rfl, rfl⟩ := H
  go_enter Tryd.func19, Tryd.ntmps19
  go_wp2_with (first | ((with_reducible refine gate_dst (N := 3) rfl ?_); refine box_event ?hg (N := 3) ?hd (cs := #[.slice A0_0 l0_0.length c0_0, .slice A0_1 l0_1.length c0_1, .slice A0_2 l0_2.length c0_2]) (t := 26) ?hr ?_; (case hd => rfl); (case hg => rfl); (case hr => first | (go_simp; done) | (go_simp; rfl)); intro gb611 hg w15 hbox hb; have n0_ := aM (below_step (bU HB.out) hb); have n1_ := aM (hbox); have n2_ := aM ((by rw [hg]; exact (below_size (bU HB.out)) : w.heap.size ≤ gb611)); have n3_ := aM ((by rw [hg]; exact (below_size (bU HB.out)) : w.heap.size ≤ gb611)); clear HB; have HB := n0_; have BK611 := n1_; have GW611 := n2_; have GE611 := n3_; clear n0_ n1_ n2_ n3_; clear hb hbox hg; obtain ⟨hcz16_0, hcz16_1, hcz16_2, hfz16_0, hfz16_1, hfz16_2⟩ := cz3 BK611.out) | ((with_reducible refine gate_callee (f := 18) rfl ?_); refine goesLq (some 14) rfl rfl Tryd.func18 #[.agg #[.slice A0_0 l0_0.length c0_0, .slice A0_1 l0_1.length c0_1, .slice A0_2 l0_2.length c0_2], .int .i64 a1, .int .i64 a2] rfl ?_; (with_reducible refine (party_Controls.calls k _ _ l0_0 _ _ l0_1 _ _ l0_2 a1 a2 t612 t613 _ ?side1 ?side2 ?side3 ?side4 ?side5 ?side6 A4.out).mono ?_); (case side1 => exact Kd.C_up (Kd.C_below HR0_0.out HB.out)); (case side2 => exact HC0_0.out); (case side3 => exact Kd.C_up (Kd.C_below HR0_1.out HB.out)); (case side4 => exact HC0_1.out); (case side5 => exact Kd.C_up (Kd.C_below HR0_2.out HB.out)); (case side6 => exact HC0_2.out); rintro e w17 ⟨rfl, hb⟩; refine ⟨_, rfl, ?_⟩; have n0_ := aM (blk_below (kU BK611.out) hb); have n1_ := aM (below_step (bU HB.out) hb); clear BK611; clear HB; have BK611 := n0_; have HB := n1_; clear n0_ n1_; (try clear hb); (try clear hb2); (try clear hk); (try clear hi)))
  go_ret2
  exact ⟨by first | rfl | (simp [errW_none, errW_some] <;> rfl) | (simp [*, errW_none, errW_some] <;> rfl), bU HB.out⟩

end Go.Proofs.YtjeamaahhpbbkaaDoor.PAll
