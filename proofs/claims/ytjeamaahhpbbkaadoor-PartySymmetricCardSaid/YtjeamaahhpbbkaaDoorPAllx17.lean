-- PRINTED by a session's own changed print
import Derived.Test.YtjeamaahhpbbkaaDoorPAllx0
import Derived.Test.YtjeamaahhpbbkaaDoorPAllx8
import Derived.Test.YtjeamaahhpbbkaaDoorPAllx12
import Derived.Test.YtjeamaahhpbbkaaDoorPAllx14
namespace Go.Proofs.YtjeamaahhpbbkaaDoor.PAll
open Go.RowKit Go.Proofs.YtjeamaahhpbbkaaDoorW.PrintWords Go.Proofs.YtjeamaahhpbbkaaDoorW.PrintLast
set_option linter.unusedVariables false
set_option linter.unusedSimpArgs false

/-! ### party_Controls: function 18 -/
def party_Controls.f (k : Nat) (l0_0 : List Int) (l0_1 : List (S36)) (l0_2 : List (S38)) (a1 : Int) (a2 : Int) : Option (Bool × Int) := (party_Check.f k l0_0 l0_1 l0_2).bind fun t585 => (if t585 = 0 then ((party_is.f l0_0 l0_1 l0_2 a1).bind fun t586 => (if t586 = true then ((party_is.f l0_0 l0_1 l0_2 a2).bind fun t587 => (if t587 = true then ((party_controlled.f k l0_0 l0_1 l0_2 a1).bind fun t588 => (if 0 ≤ a2 then (if a2 < (t588.length : Int) then (some (rdOf false t588 a2, 0)) else (none)) else (none))) else (some (false, 14)))) else (some (false, 14)))) else (some (false, t585)))
set_option maxHeartbeats 8000000 in
set_option maxRecDepth 100000 in
theorem party_Controls.calls (k : Nat) (A0_0 : Option Addr) (c0_0 : Nat) (l0_0 : List Int) (A0_1 : Option Addr) (c0_1 : Nat) (l0_1 : List (S36)) (A0_2 : Option Addr) (c0_2 : Nat) (l0_2 : List (S38)) (a1 : Int) (a2 : Int) (r1 : Bool) (r2 : Int) (w : World) (hr0_0 : Kd.C (Kd.int .i64) w A0_0 l0_0.length l0_0) (hc0_0 : l0_0.length ≤ c0_0) (hr0_1 : Kd.C k36 w A0_1 l0_1.length l0_1) (hc0_1 : l0_1.length ≤ c0_1) (hr0_2 : Kd.C k38 w A0_2 l0_2.length l0_2) (hc0_2 : l0_2.length ≤ c0_2) (h : party_Controls.f k l0_0 l0_1 l0_2 a1 a2 = some (r1, r2)) :
  Calls Tryd.prog 18 #[.agg #[.slice A0_0 l0_0.length c0_0, .slice A0_1 l0_1.length c0_1, .slice A0_2 l0_2.length c0_2], .int .i64 a1, .int .i64 a2] w fun e w' => e = .returned (.tuple #[.bool r1, .int .i64 r2]) ∧ Below w.heap.size w w' := by
 have hu26 := Tryd.underlying26
 have HR0_0 := Aside0.mk hr0_0
 have HC0_0 := Aside0.mk hc0_0
 clear hr0_0 hc0_0
 have HR0_1 := Aside0.mk hr0_1
 have HC0_1 := Aside0.mk hc0_1
 clear hr0_1 hc0_1
 have HR0_2 := Aside0.mk hr0_2
 have HC0_2 := Aside0.mk hc0_2
 clear hr0_2 hc0_2
 have HB := aM (Below.refl w.heap.size w)
 have H : ((party_Check.f k l0_0 l0_1 l0_2).bind fun t585 => (if t585 = 0 then ((party_is.f l0_0 l0_1 l0_2 a1).bind fun t586 => (if t586 = true then ((party_is.f l0_0 l0_1 l0_2 a2).bind fun t587 => (if t587 = true then ((party_controlled.f k l0_0 l0_1 l0_2 a1).bind fun t588 => (if 0 ≤ a2 then (if a2 < (t588.length : Int) then (some (rdOf false t588 a2, 0)) else (none)) else (none))) else (some (false, 14)))) else (some (false, 14)))) else (some (false, t585)))) = some (r1, r2) := h
 clear h
 replace H := bE H
 obtain ⟨t585, A40, H⟩ := H
 replace H : (if t585 = 0 then ((party_is.f l0_0 l0_1 l0_2 a1).bind fun t586 => (if t586 = true then ((party_is.f l0_0 l0_1 l0_2 a2).bind fun t587 => (if t587 = true then ((party_controlled.f k l0_0 l0_1 l0_2 a1).bind fun t588 => (if 0 ≤ a2 then (if a2 < (t588.length : Int) then (some (rdOf false t588 a2, 0)) else (none)) else (none))) else (some (false, 14)))) else (some (false, 14)))) else (some (false, t585))) = some (r1, r2) := H
 have A4 := Aside0.mk A40
 clear A40
 by_cases c5 : t585 = 0
 ·rw [if_pos c5] at H
  have c5b0 : (t585 == 0) = true := beq_iff_eq.mpr c5
  have c5b1 : (t585 != 0) = false := bne_eq_false_iff_eq.mpr c5
  clear c5
  replace H := bE H
  obtain ⟨t586, A60, H⟩ := H
  replace H : (if t586 = true then ((party_is.f l0_0 l0_1 l0_2 a2).bind fun t587 => (if t587 = true then ((party_controlled.f k l0_0 l0_1 l0_2 a1).bind fun t588 => (if 0 ≤ a2 then (if a2 < (t588.length : Int) then (some (rdOf false t588 a2, 0)) else (none)) else (none))) else (some (false, 14)))) else (some (false, 14))) = some (r1, r2) := H
  have A6 := Aside0.mk A60
  clear A60
  by_cases c7 : t586 = true
  ·subst c7
   have H1 : ((party_is.f l0_0 l0_1 l0_2 a2).bind fun t587 => (if t587 = true then ((party_controlled.f k l0_0 l0_1 l0_2 a1).bind fun t588 => (if 0 ≤ a2 then (if a2 < (t588.length : Int) then (some (rdOf false t588 a2, 0)) else (none)) else (none))) else (some (false, 14)))) = some (r1, r2) := by rw [if_pos rfl] at H; exact H
   clear H
   have H := H1
   clear H1
   replace H := bE H
   obtain ⟨t587, A80, H⟩ := H
   replace H : (if t587 = true then ((party_controlled.f k l0_0 l0_1 l0_2 a1).bind fun t588 => (if 0 ≤ a2 then (if a2 < (t588.length : Int) then (some (rdOf false t588 a2, 0)) else (none)) else (none))) else (some (false, 14))) = some (r1, r2) := H
   have A8 := Aside0.mk A80
   clear A80
   by_cases c9 : t587 = true
   ·subst c9
    have H1 : ((party_controlled.f k l0_0 l0_1 l0_2 a1).bind fun t588 => (if 0 ≤ a2 then (if a2 < (t588.length : Int) then (some (rdOf false t588 a2, 0)) else (none)) else (none))) = some (r1, r2) := by rw [if_pos rfl] at H; exact H
    clear H
    have H := H1
    clear H1
    replace H := bE H
    obtain ⟨t588, A100, H⟩ := H
    replace H : (if 0 ≤ a2 then (if a2 < (t588.length : Int) then (some (rdOf false t588 a2, 0)) else (none)) else (none)) = some (r1, r2) := H
    have A10 := Aside0.mk A100
    clear A100
    by_cases c11 : 0 ≤ a2
    ·rw [if_pos c11] at H
     have c11b0 := decide_eq_true c11
     clear c11
     by_cases c12 : a2 < (t588.length : Int)
     ·rw [if_pos c12] at H
      have c12b0 := decide_eq_true c12
      clear c12
      simp only [Option.some.injEq, Prod.mk.injEq] at H
      obtain ⟨rfl, rfl⟩ := H
      go_enter Tryd.func18, Tryd.ntmps18
      go_wp2_with (first | ((with_reducible refine gate_dst (N := 3) rfl ?_); refine box_event ?hg (N := 3) ?hd (cs := #[.slice A0_0 l0_0.length c0_0, .slice A0_1 l0_1.length c0_1, .slice A0_2 l0_2.length c0_2]) (t := 26) ?hr ?_; (case hd => rfl); (case hg => rfl); (case hr => first | (go_simp; done) | (go_simp; rfl)); intro gb584 hg w13 hbox hb; have n0_ := aM (below_step (bU HB.out) hb); have n1_ := aM (hbox); have n2_ := aM ((by rw [hg]; exact (below_size (bU HB.out)) : w.heap.size ≤ gb584)); have n3_ := aM ((by rw [hg]; exact (below_size (bU HB.out)) : w.heap.size ≤ gb584)); clear HB; have HB := n0_; have BK584 := n1_; have GW584 := n2_; have GE584 := n3_; clear n0_ n1_ n2_ n3_; clear hb hbox hg; obtain ⟨hcz14_0, hcz14_1, hcz14_2, hfz14_0, hfz14_1, hfz14_2⟩ := cz3 BK584.out) | ((with_reducible refine gate_callee (f := 11) rfl ?_); refine goesLq (some 10) rfl rfl Tryd.func11 #[.agg #[.slice A0_0 l0_0.length c0_0, .slice A0_1 l0_1.length c0_1, .slice A0_2 l0_2.length c0_2]] rfl ?_; (with_reducible refine (party_Check.calls k _ _ l0_0 _ _ l0_1 _ _ l0_2 t585 _ ?side1 ?side2 ?side3 ?side4 ?side5 ?side6 A4.out).mono ?_); (case side1 => exact Kd.C_up (Kd.C_below HR0_0.out HB.out)); (case side2 => exact HC0_0.out); (case side3 => exact Kd.C_up (Kd.C_below HR0_1.out HB.out)); (case side4 => exact HC0_1.out); (case side5 => exact Kd.C_up (Kd.C_below HR0_2.out HB.out)); (case side6 => exact HC0_2.out); rintro e w15 ⟨rfl, hb⟩; refine ⟨_, rfl, ?_⟩; have n0_ := aM (blk_below (kU BK584.out) hb); have n1_ := aM (below_step (bU HB.out) hb); clear BK584; clear HB; have BK584 := n0_; have HB := n1_; clear n0_ n1_; (try clear hb); (try clear hb2); (try clear hk); (try clear hi); obtain ⟨hcz16_0, hcz16_1, hcz16_2, hfz16_0, hfz16_1, hfz16_2⟩ := cz3 BK584.out) | ((with_reducible refine gate_callee (f := 21) rfl ?_); refine goesLq (some 16) rfl rfl Tryd.func21 #[.agg #[.slice A0_0 l0_0.length c0_0, .slice A0_1 l0_1.length c0_1, .slice A0_2 l0_2.length c0_2], .int .i64 a1] rfl ?_; (with_reducible refine (party_is.calls _ _ l0_0 _ _ l0_1 _ _ l0_2 a1 true _ ?side1 ?side2 ?side3 ?side4 ?side5 ?side6 A6.out).mono ?_); (case side1 => exact Kd.C_up (Kd.C_below HR0_0.out HB.out)); (case side2 => exact HC0_0.out); (case side3 => exact Kd.C_up (Kd.C_below HR0_1.out HB.out)); (case side4 => exact HC0_1.out); (case side5 => exact Kd.C_up (Kd.C_below HR0_2.out HB.out)); (case side6 => exact HC0_2.out); rintro e w17 ⟨rfl, hb⟩; refine ⟨_, rfl, ?_⟩; have n0_ := aM (blk_below (kU BK584.out) hb); have n1_ := aM (below_step (bU HB.out) hb); clear BK584; clear HB; have BK584 := n0_; have HB := n1_; clear n0_ n1_; (try clear hb); (try clear hb2); (try clear hk); (try clear hi); obtain ⟨hcz18_0, hcz18_1, hcz18_2, hfz18_0, hfz18_1, hfz18_2⟩ := cz3 BK584.out) | (go_at_call 21; (with_reducible refine (party_is.calls _ _ l0_0 _ _ l0_1 _ _ l0_2 a2 true _ ?side1 ?side2 ?side3 ?side4 ?side5 ?side6 A8.out).mono ?_); (case side1 => exact Kd.C_up (Kd.C_below HR0_0.out HB.out)); (case side2 => exact HC0_0.out); (case side3 => exact Kd.C_up (Kd.C_below HR0_1.out HB.out)); (case side4 => exact HC0_1.out); (case side5 => exact Kd.C_up (Kd.C_below HR0_2.out HB.out)); (case side6 => exact HC0_2.out); rintro e w19 ⟨rfl, hb⟩; have n0_ := aM (blk_below (kU BK584.out) hb); have n1_ := aM (below_step (bU HB.out) hb); clear BK584; clear HB; have BK584 := n0_; have HB := n1_; clear n0_ n1_; (try clear hb); (try clear hb2); (try clear hk); (try clear hi); obtain ⟨hcz20_0, hcz20_1, hcz20_2, hfz20_0, hfz20_1, hfz20_2⟩ := cz3 BK584.out) | ((with_reducible refine gate_callee (f := 31) rfl ?_); refine goesLq (some 26) rfl rfl Tryd.func31 #[.agg #[.slice A0_0 l0_0.length c0_0, .slice A0_1 l0_1.length c0_1, .slice A0_2 l0_2.length c0_2], .int .i64 a1] rfl ?_; (with_reducible refine (party_controlled.calls k _ _ l0_0 _ _ l0_1 _ _ l0_2 a1 t588 _ ?side1 ?side2 ?side3 ?side4 ?side5 ?side6 A10.out).mono ?_); (case side1 => exact Kd.C_up (Kd.C_below HR0_0.out HB.out)); (case side2 => exact HC0_0.out); (case side3 => exact Kd.C_up (Kd.C_below HR0_1.out HB.out)); (case side4 => exact HC0_1.out); (case side5 => exact Kd.C_up (Kd.C_below HR0_2.out HB.out)); (case side6 => exact HC0_2.out); rintro e w21 ⟨v589, rfl, ho0, hb⟩; refine ⟨_, rfl, ?_⟩; have n0_ := aM (Kd.R_lower ho0 (below_size (bU HB.out))); have n1_ := aM (blk_below (kU BK584.out) hb); have n2_ := aM (below_step (bU HB.out) hb); clear BK584; clear HB; have HO590 := n0_; have BK584 := n1_; have HB := n2_; clear n0_ n1_ n2_; (try clear hb); (try clear hb2); (try clear hk); (try clear hi); (try clear ho0); obtain ⟨Ao22, co22, eo22⟩ := Kd.R_slice HO590.out; subst eo22; have p591 : 0 ≤ (a2 : Int) := oD; have q591 : a2 < (t588.length : Int) := oD; obtain ⟨ad591, e591, hx591_0⟩ := Kd.at_bool (Kd.R_reads' HO590.out).2.2 a2 p591 q591; cases e591; replace p591 := eq_true p591; replace q591 := eq_true q591))
      go_ret2
      exact ⟨by first | rfl | (simp [errW_none, errW_some] <;> rfl) | (simp [*, errW_none, errW_some] <;> rfl), bU HB.out⟩
     ·rw [if_neg c12] at H
      exact absurd H (by simp)
    ·rw [if_neg c11] at H
     exact absurd H (by simp)
   ·replace c9 := Bool.eq_false_iff.mpr c9
    subst c9
    have H1 : (some (false, 14)) = some (r1, r2) := by rw [if_neg (show ¬ (false = true) by decide)] at H; exact H
    clear H
    have H := H1
    clear H1
    simp only [Option.some.injEq, Prod.mk.injEq] at H
    obtain ⟨rfl, rfl⟩ := H
    go_enter Tryd.func18, Tryd.ntmps18
    go_wp2_with (first | ((with_reducible refine gate_dst (N := 3) rfl ?_); refine box_event ?hg (N := 3) ?hd (cs := #[.slice A0_0 l0_0.length c0_0, .slice A0_1 l0_1.length c0_1, .slice A0_2 l0_2.length c0_2]) (t := 26) ?hr ?_; (case hd => rfl); (case hg => rfl); (case hr => first | (go_simp; done) | (go_simp; rfl)); intro gb584 hg w23 hbox hb; have n0_ := aM (below_step (bU HB.out) hb); have n1_ := aM (hbox); have n2_ := aM ((by rw [hg]; exact (below_size (bU HB.out)) : w.heap.size ≤ gb584)); have n3_ := aM ((by rw [hg]; exact (below_size (bU HB.out)) : w.heap.size ≤ gb584)); clear HB; have HB := n0_; have BK584 := n1_; have GW584 := n2_; have GE584 := n3_; clear n0_ n1_ n2_ n3_; clear hb hbox hg; obtain ⟨hcz24_0, hcz24_1, hcz24_2, hfz24_0, hfz24_1, hfz24_2⟩ := cz3 BK584.out) | ((with_reducible refine gate_callee (f := 11) rfl ?_); refine goesLq (some 10) rfl rfl Tryd.func11 #[.agg #[.slice A0_0 l0_0.length c0_0, .slice A0_1 l0_1.length c0_1, .slice A0_2 l0_2.length c0_2]] rfl ?_; (with_reducible refine (party_Check.calls k _ _ l0_0 _ _ l0_1 _ _ l0_2 t585 _ ?side1 ?side2 ?side3 ?side4 ?side5 ?side6 A4.out).mono ?_); (case side1 => exact Kd.C_up (Kd.C_below HR0_0.out HB.out)); (case side2 => exact HC0_0.out); (case side3 => exact Kd.C_up (Kd.C_below HR0_1.out HB.out)); (case side4 => exact HC0_1.out); (case side5 => exact Kd.C_up (Kd.C_below HR0_2.out HB.out)); (case side6 => exact HC0_2.out); rintro e w25 ⟨rfl, hb⟩; refine ⟨_, rfl, ?_⟩; have n0_ := aM (blk_below (kU BK584.out) hb); have n1_ := aM (below_step (bU HB.out) hb); clear BK584; clear HB; have BK584 := n0_; have HB := n1_; clear n0_ n1_; (try clear hb); (try clear hb2); (try clear hk); (try clear hi); obtain ⟨hcz26_0, hcz26_1, hcz26_2, hfz26_0, hfz26_1, hfz26_2⟩ := cz3 BK584.out) | ((with_reducible refine gate_callee (f := 21) rfl ?_); refine goesLq (some 16) rfl rfl Tryd.func21 #[.agg #[.slice A0_0 l0_0.length c0_0, .slice A0_1 l0_1.length c0_1, .slice A0_2 l0_2.length c0_2], .int .i64 a1] rfl ?_; (with_reducible refine (party_is.calls _ _ l0_0 _ _ l0_1 _ _ l0_2 a1 true _ ?side1 ?side2 ?side3 ?side4 ?side5 ?side6 A6.out).mono ?_); (case side1 => exact Kd.C_up (Kd.C_below HR0_0.out HB.out)); (case side2 => exact HC0_0.out); (case side3 => exact Kd.C_up (Kd.C_below HR0_1.out HB.out)); (case side4 => exact HC0_1.out); (case side5 => exact Kd.C_up (Kd.C_below HR0_2.out HB.out)); (case side6 => exact HC0_2.out); rintro e w27 ⟨rfl, hb⟩; refine ⟨_, rfl, ?_⟩; have n0_ := aM (blk_below (kU BK584.out) hb); have n1_ := aM (below_step (bU HB.out) hb); clear BK584; clear HB; have BK584 := n0_; have HB := n1_; clear n0_ n1_; (try clear hb); (try clear hb2); (try clear hk); (try clear hi); obtain ⟨hcz28_0, hcz28_1, hcz28_2, hfz28_0, hfz28_1, hfz28_2⟩ := cz3 BK584.out) | (go_at_call 21; (with_reducible refine (party_is.calls _ _ l0_0 _ _ l0_1 _ _ l0_2 a2 false _ ?side1 ?side2 ?side3 ?side4 ?side5 ?side6 A8.out).mono ?_); (case side1 => exact Kd.C_up (Kd.C_below HR0_0.out HB.out)); (case side2 => exact HC0_0.out); (case side3 => exact Kd.C_up (Kd.C_below HR0_1.out HB.out)); (case side4 => exact HC0_1.out); (case side5 => exact Kd.C_up (Kd.C_below HR0_2.out HB.out)); (case side6 => exact HC0_2.out); rintro e w29 ⟨rfl, hb⟩; have n0_ := aM (blk_below (kU BK584.out) hb); have n1_ := aM (below_step (bU HB.out) hb); clear BK584; clear HB; have BK584 := n0_; have HB := n1_; clear n0_ n1_; (try clear hb); (try clear hb2); (try clear hk); (try clear hi)))
    go_ret2
    exact ⟨by first | rfl | (simp [errW_none, errW_some] <;> rfl) | (simp [*, errW_none, errW_some] <;> rfl), bU HB.out⟩
  ·replace c7 := Bool.eq_false_iff.mpr c7
   subst c7
   have H1 : (some (false, 14)) = some (r1, r2) := by rw [if_neg (show ¬ (false = true) by decide)] at H; exact H
   clear H
   have H := H1
   clear H1
   simp only [Option.some.injEq, Prod.mk.injEq] at H
   obtain ⟨rfl, rfl⟩ := H
   go_enter Tryd.func18, Tryd.ntmps18
   go_wp2_with (first | ((with_reducible refine gate_dst (N := 3) rfl ?_); refine box_event ?hg (N := 3) ?hd (cs := #[.slice A0_0 l0_0.length c0_0, .slice A0_1 l0_1.length c0_1, .slice A0_2 l0_2.length c0_2]) (t := 26) ?hr ?_; (case hd => rfl); (case hg => rfl); (case hr => first | (go_simp; done) | (go_simp; rfl)); intro gb584 hg w30 hbox hb; have n0_ := aM (below_step (bU HB.out) hb); have n1_ := aM (hbox); have n2_ := aM ((by rw [hg]; exact (below_size (bU HB.out)) : w.heap.size ≤ gb584)); have n3_ := aM ((by rw [hg]; exact (below_size (bU HB.out)) : w.heap.size ≤ gb584)); clear HB; have HB := n0_; have BK584 := n1_; have GW584 := n2_; have GE584 := n3_; clear n0_ n1_ n2_ n3_; clear hb hbox hg; obtain ⟨hcz31_0, hcz31_1, hcz31_2, hfz31_0, hfz31_1, hfz31_2⟩ := cz3 BK584.out) | ((with_reducible refine gate_callee (f := 11) rfl ?_); refine goesLq (some 10) rfl rfl Tryd.func11 #[.agg #[.slice A0_0 l0_0.length c0_0, .slice A0_1 l0_1.length c0_1, .slice A0_2 l0_2.length c0_2]] rfl ?_; (with_reducible refine (party_Check.calls k _ _ l0_0 _ _ l0_1 _ _ l0_2 t585 _ ?side1 ?side2 ?side3 ?side4 ?side5 ?side6 A4.out).mono ?_); (case side1 => exact Kd.C_up (Kd.C_below HR0_0.out HB.out)); (case side2 => exact HC0_0.out); (case side3 => exact Kd.C_up (Kd.C_below HR0_1.out HB.out)); (case side4 => exact HC0_1.out); (case side5 => exact Kd.C_up (Kd.C_below HR0_2.out HB.out)); (case side6 => exact HC0_2.out); rintro e w32 ⟨rfl, hb⟩; refine ⟨_, rfl, ?_⟩; have n0_ := aM (blk_below (kU BK584.out) hb); have n1_ := aM (below_step (bU HB.out) hb); clear BK584; clear HB; have BK584 := n0_; have HB := n1_; clear n0_ n1_; (try clear hb); (try clear hb2); (try clear hk); (try clear hi); obtain ⟨hcz33_0, hcz33_1, hcz33_2, hfz33_0, hfz33_1, hfz33_2⟩ := cz3 BK584.out) | ((with_reducible refine gate_callee (f := 21) rfl ?_); refine goesLq (some 16) rfl rfl Tryd.func21 #[.agg #[.slice A0_0 l0_0.length c0_0, .slice A0_1 l0_1.length c0_1, .slice A0_2 l0_2.length c0_2], .int .i64 a1] rfl ?_; (with_reducible refine (party_is.calls _ _ l0_0 _ _ l0_1 _ _ l0_2 a1 false _ ?side1 ?side2 ?side3 ?side4 ?side5 ?side6 A6.out).mono ?_); (case side1 => exact Kd.C_up (Kd.C_below HR0_0.out HB.out)); (case side2 => exact HC0_0.out); (case side3 => exact Kd.C_up (Kd.C_below HR0_1.out HB.out)); (case side4 => exact HC0_1.out); (case side5 => exact Kd.C_up (Kd.C_below HR0_2.out HB.out)); (case side6 => exact HC0_2.out); rintro e w34 ⟨rfl, hb⟩; refine ⟨_, rfl, ?_⟩; have n0_ := aM (blk_below (kU BK584.out) hb); have n1_ := aM (below_step (bU HB.out) hb); clear BK584; clear HB; have BK584 := n0_; have HB := n1_; clear n0_ n1_; (try clear hb); (try clear hb2); (try clear hk); (try clear hi)))
   go_ret2
   exact ⟨by first | rfl | (simp [errW_none, errW_some] <;> rfl) | (simp [*, errW_none, errW_some] <;> rfl), bU HB.out⟩
 ·rw [if_neg c5] at H
  have c5b0 : (t585 == 0) = false := beq_eq_false_iff_ne.mpr c5
  have c5b1 : (t585 != 0) = true := bne_iff_ne.mpr c5
  simp only [Option.some.injEq, Prod.mk.injEq] at H
  obtain ⟨rfl, rfl⟩ := H
  go_enter Tryd.func18, Tryd.ntmps18
  go_wp2_with (first | ((with_reducible refine gate_dst (N := 3) rfl ?_); refine box_event ?hg (N := 3) ?hd (cs := #[.slice A0_0 l0_0.length c0_0, .slice A0_1 l0_1.length c0_1, .slice A0_2 l0_2.length c0_2]) (t := 26) ?hr ?_; (case hd => rfl); (case hg => rfl); (case hr => first | (go_simp; done) | (go_simp; rfl)); intro gb584 hg w35 hbox hb; have n0_ := aM (below_step (bU HB.out) hb); have n1_ := aM (hbox); have n2_ := aM ((by rw [hg]; exact (below_size (bU HB.out)) : w.heap.size ≤ gb584)); have n3_ := aM ((by rw [hg]; exact (below_size (bU HB.out)) : w.heap.size ≤ gb584)); clear HB; have HB := n0_; have BK584 := n1_; have GW584 := n2_; have GE584 := n3_; clear n0_ n1_ n2_ n3_; clear hb hbox hg; obtain ⟨hcz36_0, hcz36_1, hcz36_2, hfz36_0, hfz36_1, hfz36_2⟩ := cz3 BK584.out) | ((with_reducible refine gate_callee (f := 11) rfl ?_); refine goesLq (some 10) rfl rfl Tryd.func11 #[.agg #[.slice A0_0 l0_0.length c0_0, .slice A0_1 l0_1.length c0_1, .slice A0_2 l0_2.length c0_2]] rfl ?_; (with_reducible refine (party_Check.calls k _ _ l0_0 _ _ l0_1 _ _ l0_2 t585 _ ?side1 ?side2 ?side3 ?side4 ?side5 ?side6 A4.out).mono ?_); (case side1 => exact Kd.C_up (Kd.C_below HR0_0.out HB.out)); (case side2 => exact HC0_0.out); (case side3 => exact Kd.C_up (Kd.C_below HR0_1.out HB.out)); (case side4 => exact HC0_1.out); (case side5 => exact Kd.C_up (Kd.C_below HR0_2.out HB.out)); (case side6 => exact HC0_2.out); rintro e w37 ⟨rfl, hb⟩; refine ⟨_, rfl, ?_⟩; have n0_ := aM (blk_below (kU BK584.out) hb); have n1_ := aM (below_step (bU HB.out) hb); clear BK584; clear HB; have BK584 := n0_; have HB := n1_; clear n0_ n1_; (try clear hb); (try clear hb2); (try clear hk); (try clear hi)))
  go_ret2
  exact ⟨by first | rfl | (simp [errW_none, errW_some] <;> rfl) | (simp [*, errW_none, errW_some] <;> rfl), bU HB.out⟩

end Go.Proofs.YtjeamaahhpbbkaaDoor.PAll
