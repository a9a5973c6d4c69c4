-- PRINTED by a session's own changed print
import Derived.Test.YtjeamaahhpbbkaaDoorPAllx0
import Derived.Test.YtjeamaahhpbbkaaDoorPAllx8
import Derived.Test.YtjeamaahhpbbkaaDoorPAllx12
import Derived.Test.YtjeamaahhpbbkaaDoorPAllx14
import Derived.Test.YtjeamaahhpbbkaaDoorPAllx15
import Derived.Test.YtjeamaahhpbbkaaDoorPAllx16
namespace Go.Proofs.YtjeamaahhpbbkaaDoor.PAll
open Go.RowKit Go.Proofs.YtjeamaahhpbbkaaDoorW.PrintWords Go.Proofs.YtjeamaahhpbbkaaDoorW.PrintLast
set_option linter.unusedVariables false
set_option linter.unusedSimpArgs false

/-! ### party_Controls: function 18 -/
def party_Controls.f (k : Nat) (l0_0 : List Int) (l0_1 : List (S36)) (l0_2 : List (S38)) (a1 : Int) (a2 : Int) : Option (Bool × Int) := (party_Check.f k l0_0 l0_1 l0_2).bind fun t585 => (if t585 = 0 then ((party_is.f l0_0 l0_1 l0_2 a1).bind fun t586 => (if t586 = true then ((party_is.f l0_0 l0_1 l0_2 a2).bind fun t587 => (if t587 = true then ((party_controlled.f k l0_0 l0_1 l0_2 a1).bind fun t588 => (if 0 ≤ a2 then (if a2 < (t588.length : Int) then (some (rdOf false t588 a2, 0)) else (none)) else (none))) else (some (false, 14)))) else (some (false, 14)))) else (some (false, t585)))
theorem party_Controls.mono : ∀ a0 a1 a2 a3 a4 k, LeO (party_Controls.f k a0 a1 a2 a3 a4) (party_Controls.f (k + 1) a0 a1 a2 a3 a4) := by
 intro a0 a1 a2 a3 a4 k
 unfold party_Controls.f
 repeat' first
   | (with_reducible exact party_Check.mono _ _ _ _)
   | (with_reducible exact party_controlled.mono _ _ _ _ _)
   | (with_reducible exact LeO.refl _)
   | (with_reducible exact LeO.none _)
   | (with_reducible refine LeO.ite ?_ ?_)
   | (with_reducible refine LeO.bind ?_ (fun _ => ?_))
   | exact LeO.none _
   | refine LeO.ite ?_ ?_
   | refine LeO.bind ?_ (fun _ => ?_)
set_option maxHeartbeats 8000000 in
set_option maxRecDepth 100000 in
theorem party_Controls.calls (k : Nat) (A0_0 : Option Addr) (c0_0 : Nat) (l0_0 : List Int) (A0_1 : Option Addr) (c0_1 : Nat) (l0_1 : List (S36)) (A0_2 : Option Addr) (c0_2 : Nat) (l0_2 : List (S38)) (a1 : Int) (a2 : Int) (r1 : Bool) (r2 : Int) (w : World) (hr0_0 : Kd.C (Kd.int .i64) w A0_0 l0_0.length l0_0) (hc0_0 : l0_0.length ≤ c0_0) (hr0_1 : Kd.C k36 w A0_1 l0_1.length l0_1) (hc0_1 : l0_1.length ≤ c0_1) (hr0_2 : Kd.C k38 w A0_2 l0_2.length l0_2) (hc0_2 : l0_2.length ≤ c0_2) (h : party_Controls.f k l0_0 l0_1 l0_2 a1 a2 = some (r1, r2)) :
  Calls Tryd.prog 18 #[.agg #[.slice A0_0 l0_0.length c0_0, .slice A0_1 l0_1.length c0_1, .slice A0_2 l0_2.length c0_2], .int .i64 a1, .int .i64 a2] w fun e w' => e = .returned (.tuple #[.bool r1, .int .i64 r2]) ∧ Below w.heap.size w w' := by
 have hu26 := Tryd.underlying26
 have HR0_0 := Aside0.mk hr0_0
 have HC0_0 := Aside0.mk hc0_0
 clear hr0_0 hc0_0
 have HR0_1 := Aside0.mk hr0_1
 have HC0_1 := Aside0.mk hc0_1
 clear hr0_1 hc0_1
 have HR0_2 := Aside0.mk hr0_2
 have HC0_2 := Aside0.mk hc0_2
 clear hr0_2 hc0_2
 have HB := aM (Below.refl w.heap.size w)
 have H : ((party_Check.f k l0_0 l0_1 l0_2).bind fun t585 => (if t585 = 0 then ((party_is.f l0_0 l0_1 l0_2 a1).bind fun t586 => (if t586 = true then ((party_is.f l0_0 l0_1 l0_2 a2).bind fun t587 => (if t587 = true then ((party_controlled.f k l0_0 l0_1 l0_2 a1).bind fun t588 => (if 0 ≤ a2 then (if a2 < (t588.length : Int) then (some (rdOf false t588 a2, 0)) else (none)) else (none))) else (some (false, 14)))) else (some (false, 14)))) else (some (false, t585)))) = some (r1, r2) := h
 clear h
 replace H := bE H
 obtain ⟨t585, A40, H⟩ := H
 replace H : (if t585 = 0 then ((party_is.f l0_0 l0_1 l0_2 a1).bind fun t586 => (if t586 = true then ((party_is.f l0_0 l0_1 l0_2 a2).bind fun t587 => (if t587 = true then ((party_controlled.f k l0_0 l0_1 l0_2 a1).bind fun t588 => (if 0 ≤ a2 then (if a2 < (t588.length : Int) then (some (rdOf false t588 a2, 0)) else (none)) else (none))) else (some (false, 14)))) else (some (false, 14)))) else (some (false, t585))) = some (r1, r2) := H
 have A4 := Aside0.mk A40
 clear A40
 by_cases c5 : t585 = 0
 ·rw [if_pos c5] at H
  have c5b0 : (t585 == 0) = true := beq_iff_eq.mpr c5
  have c5b1 : (t585 != 0) = false := bne_eq_false_iff_eq.mpr c5
  clear c5
  replace H := bE H
  obtain ⟨t586, A60, H⟩ := H
  replace H : (if t586 = true then ((party_is.f l0_0 l0_1 l0_2 a2).bind fun t587 => (if t587 = true then ((party_controlled.f k l0_0 l0_1 l0_2 a1).bind fun t588 => (if 0 ≤ a2 then (if a2 < (t588.length : Int) then (some (rdOf false t588 a2, 0)) else (none)) else (none))) else (some (false, 14)))) else (some (false, 14))) = some (r1, r2) := H
  have A6 := Aside0.mk A60
  clear A60
  by_cases c7 : t586 = true
  ·subst c7
   have H1 : ((party_is.f l0_0 l0_1 l0_2 a2).bind fun t587 => (if t587 = true then ((party_controlled.f k l0_0 l0_1 l0_2 a1).bind fun t588 => (if 0 ≤ a2 then (if a2 < (t588.length : Int) then (some (rdOf false t588 a2, 0)) else (none)) else (none))) else (some (false, 14)))) = some (r1, r2) := by rw [if_pos rfl] at H; exact H
   clear H
   have H := H1
   clear H1
   replace H := bE H
   obtain ⟨t587, A80, H⟩ := H
   replace H : (if t587 = true then ((party_controlled.f k l0_0 l0_1 l0_2 a1).bind fun t588 => (if 0 ≤ a2 then (if a2 < (t588.length : Int) then (some (rdOf false t588 a2, 0)) else (none)) else (none))) else (some (false, 14))) = some (r1, r2) := H
   have A8 := Aside0.mk A80
   clear A80
   by_cases c9 : t587 = true
   ·subst c9
    have H1 : ((party_controlled.f k l0_0 l0_1 l0_2 a1).bind fun t588 => (if 0 ≤ a2 then (if a2 < (t588.length : Int) then (some (rdOf false t588 a2, 0)) else (none)) else (none))) = some (r1, r2) := by rw [if_pos rfl] at H; exact H
    clear H
    have H := H1
    clear H1
    replace H := bE H
    obtain ⟨t588, A100, H⟩ := H
    replace H : (if 0 ≤ a2 then (if a2 < (t588.length : Int) then (some (rdOf false t588 a2, 0)) else (none)) else (none)) = some (r1, r2) := H
    have A10 := Aside0.mk A100
    clear A100
    by_cases c11 : 0 ≤ a2
    ·rw [if_pos c11] at H
     have c11b0 : decide (0 ≤ a2) = true := decide_eq_true c11
     clear c11
     by_cases c12 : a2 < (t588.length : Int)
     ·rw [if_pos c12] at H
      have c12b0 : decide (a2 < (t588.length : Int)) = true := decide_eq_true c12
      clear c12
      simp only [Option.some.injEq, Prod.mk.injEq] at H
      obtain ⟨rfl, rfl⟩ := H
      go_enter Tryd.func18, Tryd.ntmps18
      go_wp2_with (first | ((with_reducible refine gate_dst (N := 3) rfl ?_); refine box_event ?hg (N := 3) ?hd (cs := #[.slice A0_0 l0_0.length c0_0, .slice A0_1 l0_1.length c0_1, .slice A0_2 l0_2.length c0_2]) (t := 26) ?hr ?_; (case hd => rfl); (case hg => rfl); (case hr => first | (go_simp; done) | (go_simp; rfl)); intro gb584 hg w13 hbox hb; have n0_ := aM (below_step (bU HB.out) hb); have n1_ := aM (hbox); have n2_ := aM ((by rw [hg]; exact (below_size (bU HB.out)) : w.heap.size ≤ gb584)); have n3_ := aM ((by rw [hg]; exact (below_size (bU HB.out)) : w.heap.size ≤ gb584)); clear HB; have HB := n0_; have BK584 := n1_; have GW584 := n2_; have GE584 := n3_; clear n0_ n1_ n2_ n3_; clear hb hbox hg; obtain ⟨hcz14_0, hcz14_1, hcz14_2, hfz14_0, hfz14_1, hfz14_2⟩ := cz3 BK584.out) | ((with_reducible refine gate_callee (f := 11) rfl ?_); refine goesLq (some 10) rfl rfl Tryd.func11 #[.agg #[.slice A0_0 l0_0.length c0_0, .slice A0_1 l0_1.length c0_1, .slice A0_2 l0_2.length c0_2]] rfl ?_; (with_reducible refine (party_Check.calls k _ _ l0_0 _ _ l0_1 _ _ l0_2 t585 _ ?side1 ?side2 ?side3 ?side4 ?side5 ?side6 A4.out).mono ?_); (case side1 => exact Kd.C_up (Kd.C_below HR0_0.out HB.out)); (case side2 => exact HC0_0.out); (case side3 => exact Kd.C_up (Kd.C_below HR0_1.out HB.out)); (case side4 => exact HC0_1.out); (case side5 => exact Kd.C_up (Kd.C_below HR0_2.out HB.out)); (case side6 => exact HC0_2.out); rintro e w15 ⟨rfl, hb⟩; refine ⟨_, rfl, ?_⟩; have n0_ := aM (blk_below (kU BK584.out) hb); have n1_ := aM (below_step (bU HB.out) hb); clear BK584; clear HB; have BK584 := n0_; have HB := n1_; clear n0_ n1_; (try clear hb); (try clear hb2); (try clear hk); (try clear hi); obtain ⟨hcz16_0, hcz16_1, hcz16_2, hfz16_0, hfz16_1, hfz16_2⟩ := cz3 BK584.out) | ((with_reducible refine gate_callee (f := 21) rfl ?_); refine goesLq (some 16) rfl rfl Tryd.func21 #[.agg #[.slice A0_0 l0_0.length c0_0, .slice A0_1 l0_1.length c0_1, .slice A0_2 l0_2.length c0_2], .int .i64 a1] rfl ?_; (with_reducible refine (party_is.calls _ _ l0_0 _ _ l0_1 _ _ l0_2 a1 true _ ?side1 ?side2 ?side3 ?side4 ?side5 ?side6 A6.out).mono ?_); (case side1 => exact Kd.C_up (Kd.C_below HR0_0.out HB.out)); (case side2 => exact HC0_0.out); (case side3 => exact Kd.C_up (Kd.C_below HR0_1.out HB.out)); (case side4 => exact HC0_1.out); (case side5 => exact Kd.C_up (Kd.C_below HR0_2.out HB.out)); (case side6 => exact HC0_2.out); rintro e w17 ⟨rfl, hb⟩; refine ⟨_, rfl, ?_⟩; have n0_ := aM (blk_below (kU BK584.out) hb); have n1_ := aM (below_step (bU HB.out) hb); clear BK584; clear HB; have BK584 := n0_; have HB := n1_; clear n0_ n1_; (try clear hb); (try clear hb2); (try clear hk); (try clear hi); obtain ⟨hcz18_0, hcz18_1, hcz18_2, hfz18_0, hfz18_1, hfz18_2⟩ := cz3 BK584.out) | (go_at_call 21; (with_reducible refine (party_is.calls _ _ l0_0 _ _ l0_1 _ _ l0_2 a2 true _ ?side1 ?side2 ?side3 ?side4 ?side5 ?side6 A8.out).mono ?_); (case side1 => exact Kd.C_up (Kd.C_below HR0_0.out HB.out)); (case side2 => exact HC0_0.out); (case side3 => exact Kd.C_up (Kd.C_below HR0_1.out HB.out)); (case side4 => exact HC0_1.out); (case side5 => exact Kd.C_up (Kd.C_below HR0_2.out HB.out)); (case side6 => exact HC0_2.out); rintro e w19 ⟨rfl, hb⟩; have n0_ := aM (blk_below (kU BK584.out) hb); have n1_ := aM (below_step (bU HB.out) hb); clear BK584; clear HB; have BK584 := n0_; have HB := n1_; clear n0_ n1_; (try clear hb); (try clear hb2); (try clear hk); (try clear hi); obtain ⟨hcz20_0, hcz20_1, hcz20_2, hfz20_0, hfz20_1, hfz20_2⟩ := cz3 BK584.out) | ((with_reducible refine gate_callee (f := 31) rfl ?_); refine goesLq (some 26) rfl rfl Tryd.func31 #[.agg #[.slice A0_0 l0_0.length c0_0, .slice A0_1 l0_1.length c0_1, .slice A0_2 l0_2.length c0_2], .int .i64 a1] rfl ?_; (with_reducible refine (party_controlled.calls k _ _ l0_0 _ _ l0_1 _ _ l0_2 a1 t588 _ ?side1 ?side2 ?side3 ?side4 ?side5 ?side6 A10.out).mono ?_); (case side1 => exact Kd.C_up (Kd.C_below HR0_0.out HB.out)); (case side2 => exact HC0_0.out); (case side3 => exact Kd.C_up (Kd.C_below HR0_1.out HB.out)); (case side4 => exact HC0_1.out); (case side5 => exact Kd.C_up (Kd.C_below HR0_2.out HB.out)); (case side6 => exact HC0_2.out); rintro e w21 ⟨v589, rfl, ho0, hb⟩; refine ⟨_, rfl, ?_⟩; have n0_ := aM (Kd.R_lower ho0 (below_size (bU HB.out))); have n1_ := aM (blk_below (kU BK584.out) hb); have n2_ := aM (below_step (bU HB.out) hb); clear BK584; clear HB; have HO590 := n0_; have BK584 := n1_; have HB := n2_; clear n0_ n1_ n2_; (try clear hb); (try clear hb2); (try clear hk); (try clear hi); (try clear ho0); obtain ⟨Ao22, co22, eo22⟩ := Kd.R_slice HO590.out; subst eo22; have p591 : 0 ≤ (a2 : Int) := oD; have q591 : a2 < (t588.length : Int) := oD; obtain ⟨ad591, e591, hx591_0⟩ := Kd.at_bool (Kd.R_reads' HO590.out).2.2 a2 p591 q591; cases e591; replace p591 := eq_true p591; replace q591 := eq_true q591))
      go_ret2
      exact ⟨by first | rfl | (simp [errW_none, errW_some] <;> rfl) | (simp [*, errW_none, errW_some] <;> rfl), bU HB.out⟩
     ·rw [if_neg c12] at H
      exact absurd H (by simp)
    ·rw [if_neg c11] at H
     exact absurd H (by simp)
   ·replace c9 := Bool.eq_false_iff.mpr c9
    subst c9
    have H1 : (some (false, 14)) = some (r1, r2) := by rw [if_neg (show ¬ (false = true) by decide)] at H; exact H
    clear H
    have H := H1
    clear H1
    simp only [Option.some.injEq, Prod.mk.injEq] at H
    obtain ⟨rfl, rfl⟩ := H
    go_enter Tryd.func18, Tryd.ntmps18
    go_wp2_with (first | ((with_reducible refine gate_dst (N := 3) rfl ?_); refine box_event ?hg (N := 3) ?hd (cs := #[.slice A0_0 l0_0.length c0_0, .slice A0_1 l0_1.length c0_1, .slice A0_2 l0_2.length c0_2]) (t := 26) ?hr ?_; (case hd => rfl); (case hg => rfl); (case hr => first | (go_simp; done) | (go_simp; rfl)); intro gb584 hg w23 hbox hb; have n0_ := aM (below_step (bU HB.out) hb); have n1_ := aM (hbox); have n2_ := aM ((by rw [hg]; exact (below_size (bU HB.out)) : w.heap.size ≤ gb584)); have n3_ := aM ((by rw [hg]; exact (below_size (bU HB.out)) : w.heap.size ≤ gb584)); clear HB; have HB := n0_; have BK584 := n1_; have GW584 := n2_; have GE584 := n3_; clear n0_ n1_ n2_ n3_; clear hb hbox hg; obtain ⟨hcz24_0, hcz24_1, hcz24_2, hfz24_0, hfz24_1, hfz24_2⟩ := cz3 BK584.out) | ((with_reducible refine gate_callee (f := 11) rfl ?_); refine goesLq (some 10) rfl rfl Tryd.func11 #[.agg #[.slice A0_0 l0_0.length c0_0, .slice A0_1 l0_1.length c0_1, .slice A0_2 l0_2.length c0_2]] rfl ?_; (with_reducible refine (party_Check.calls k _ _ l0_0 _ _ l0_1 _ _ l0_2 t585 _ ?side1 ?side2 ?side3 ?side4 ?side5 ?side6 A4.out).mono ?_); (case side1 => exact Kd.C_up (Kd.C_below HR0_0.out HB.out)); (case side2 => exact HC0_0.out); (case side3 => exact Kd.C_up (Kd.C_below HR0_1.out HB.out)); (case side4 => exact HC0_1.out); (case side5 => exact Kd.C_up (Kd.C_below HR0_2.out HB.out)); (case side6 => exact HC0_2.out); rintro e w25 ⟨rfl, hb⟩; refine ⟨_, rfl, ?_⟩; have n0_ := aM (blk_below (kU BK584.out) hb); have n1_ := aM (below_step (bU HB.out) hb); clear BK584; clear HB; have BK584 := n0_; have HB := n1_; clear n0_ n1_; (try clear hb); (try clear hb2); (try clear hk); (try clear hi); obtain ⟨hcz26_0, hcz26_1, hcz26_2, hfz26_0, hfz26_1, hfz26_2⟩ := cz3 BK584.out) | ((with_reducible refine gate_callee (f := 21) rfl ?_); refine goesLq (some 16) rfl rfl Tryd.func21 #[.agg #[.slice A0_0 l0_0.length c0_0, .slice A0_1 l0_1.length c0_1, .slice A0_2 l0_2.length c0_2], .int .i64 a1] rfl ?_; (with_reducible refine (party_is.calls _ _ l0_0 _ _ l0_1 _ _ l0_2 a1 true _ ?side1 ?side2 ?side3 ?side4 ?side5 ?side6 A6.out).mono ?_); (case side1 => exact Kd.C_up (Kd.C_below HR0_0.out HB.out)); (case side2 => exact HC0_0.out); (case side3 => exact Kd.C_up (Kd.C_below HR0_1.out HB.out)); (case side4 => exact HC0_1.out); (case side5 => exact Kd.C_up (Kd.C_below HR0_2.out HB.out)); (case side6 => exact HC0_2.out); rintro e w27 ⟨rfl, hb⟩; refine ⟨_, rfl, ?_⟩; have n0_ := aM (blk_below (kU BK584.out) hb); have n1_ := aM (below_step (bU HB.out) hb); clear BK584; clear HB; have BK584 := n0_; have HB := n1_; clear n0_ n1_; (try clear hb); (try clear hb2); (try clear hk); (try clear hi); obtain ⟨hcz28_0, hcz28_1, hcz28_2, hfz28_0, hfz28_1, hfz28_2⟩ := cz3 BK584.out) | (go_at_call 21; (with_reducible refine (party_is.calls _ _ l0_0 _ _ l0_1 _ _ l0_2 a2 false _ ?side1 ?side2 ?side3 ?side4 ?side5 ?side6 A8.out).mono ?_); (case side1 => exact Kd.C_up (Kd.C_below HR0_0.out HB.out)); (case side2 => exact HC0_0.out); (case side3 => exact Kd.C_up (Kd.C_below HR0_1.out HB.out)); (case side4 => exact HC0_1.out); (case side5 => exact Kd.C_up (Kd.C_below HR0_2.out HB.out)); (case side6 => exact HC0_2.out); rintro e w29 ⟨rfl, hb⟩; have n0_ := aM (blk_below (kU BK584.out) hb); have n1_ := aM (below_step (bU HB.out) hb); clear BK584; clear HB; have BK584 := n0_; have HB := n1_; clear n0_ n1_; (try clear hb); (try clear hb2); (try clear hk); (try clear hi)))
    go_ret2
    exact ⟨by first | rfl | (simp [errW_none, errW_some] <;> rfl) | (simp [*, errW_none, errW_some] <;> rfl), bU HB.out⟩
  ·replace c7 := Bool.eq_false_iff.mpr c7
   subst c7
   have H1 : (some (false, 14)) = some (r1, r2) := by rw [if_neg (show ¬ (false = true) by decide)] at H; exact H
   clear H
   have H := H1
   clear H1
   simp only [Option.some.injEq, Prod.mk.injEq] at H
   obtain ⟨rfl, rfl⟩ := H
   go_enter Tryd.func18, Tryd.ntmps18
   go_wp2_with (first | ((with_reducible refine gate_dst (N := 3) rfl ?_); refine box_event ?hg (N := 3) ?hd (cs := #[.slice A0_0 l0_0.length c0_0, .slice A0_1 l0_1.length c0_1, .slice A0_2 l0_2.length c0_2]) (t := 26) ?hr ?_; (case hd => rfl); (case hg => rfl); (case hr => first | (go_simp; done) | (go_simp; rfl)); intro gb584 hg w30 hbox hb; have n0_ := aM (below_step (bU HB.out) hb); have n1_ := aM (hbox); have n2_ := aM ((by rw [hg]; exact (below_size (bU HB.out)) : w.heap.size ≤ gb584)); have n3_ := aM ((by rw [hg]; exact (below_size (bU HB.out)) : w.heap.size ≤ gb584)); clear HB; have HB := n0_; have BK584 := n1_; have GW584 := n2_; have GE584 := n3_; clear n0_ n1_ n2_ n3_; clear hb hbox hg; obtain ⟨hcz31_0, hcz31_1, hcz31_2, hfz31_0, hfz31_1, hfz31_2⟩ := cz3 BK584.out) | ((with_reducible refine gate_callee (f := 11) rfl ?_); refine goesLq (some 10) rfl rfl Tryd.func11 #[.agg #[.slice A0_0 l0_0.length c0_0, .slice A0_1 l0_1.length c0_1, .slice A0_2 l0_2.length c0_2]] rfl ?_; (with_reducible refine (party_Check.calls k _ _ l0_0 _ _ l0_1 _ _ l0_2 t585 _ ?side1 ?side2 ?side3 ?side4 ?side5 ?side6 A4.out).mono ?_); (case side1 => exact Kd.C_up (Kd.C_below HR0_0.out HB.out)); (case side2 => exact HC0_0.out); (case side3 => exact Kd.C_up (Kd.C_below HR0_1.out HB.out)); (case side4 => exact HC0_1.out); (case side5 => exact Kd.C_up (Kd.C_below HR0_2.out HB.out)); (case side6 => exact HC0_2.out); rintro e w32 ⟨rfl, hb⟩; refine ⟨_, rfl, ?_⟩; have n0_ := aM (blk_below (kU BK584.out) hb); have n1_ := aM (below_step (bU HB.out) hb); clear BK584; clear HB; have BK584 := n0_; have HB := n1_; clear n0_ n1_; (try clear hb); (try clear hb2); (try clear hk); (try clear hi); obtain ⟨hcz33_0, hcz33_1, hcz33_2, hfz33_0, hfz33_1, hfz33_2⟩ := cz3 BK584.out) | ((with_reducible refine gate_callee (f := 21) rfl ?_); refine goesLq (some 16) rfl rfl Tryd.func21 #[.agg #[.slice A0_0 l0_0.length c0_0, .slice A0_1 l0_1.length c0_1, .slice A0_2 l0_2.length c0_2], .int .i64 a1] rfl ?_; (with_reducible refine (party_is.calls _ _ l0_0 _ _ l0_1 _ _ l0_2 a1 false _ ?side1 ?side2 ?side3 ?side4 ?side5 ?side6 A6.out).mono ?_); (case side1 => exact Kd.C_up (Kd.C_below HR0_0.out HB.out)); (case side2 => exact HC0_0.out); (case side3 => exact Kd.C_up (Kd.C_below HR0_1.out HB.out)); (case side4 => exact HC0_1.out); (case side5 => exact Kd.C_up (Kd.C_below HR0_2.out HB.out)); (case side6 => exact HC0_2.out); rintro e w34 ⟨rfl, hb⟩; refine ⟨_, rfl, ?_⟩; have n0_ := aM (blk_below (kU BK584.out) hb); have n1_ := aM (below_step (bU HB.out) hb); clear BK584; clear HB; have BK584 := n0_; have HB := n1_; clear n0_ n1_; (try clear hb); (try clear hb2); (try clear hk); (try clear hi)))
   go_ret2
   exact ⟨by first | rfl | (simp [errW_none, errW_some] <;> rfl) | (simp [*, errW_none, errW_some] <;> rfl), bU HB.out⟩
 ·rw [if_neg c5] at H
  have c5b0 : (t585 == 0) = false := beq_eq_false_iff_ne.mpr c5
  have c5b1 : (t585 != 0) = true := bne_iff_ne.mpr c5
  simp only [Option.some.injEq, Prod.mk.injEq] at H
  obtain ⟨rfl, rfl⟩ := H
  go_enter Tryd.func18, Tryd.ntmps18
  go_wp2_with (first | ((with_reducible refine gate_dst (N := 3) rfl ?_); refine box_event ?hg (N := 3) ?hd (cs := #[.slice A0_0 l0_0.length c0_0, .slice A0_1 l0_1.length c0_1, .slice A0_2 l0_2.length c0_2]) (t := 26) ?hr ?_; (case hd => rfl); (case hg => rfl); (case hr => first | (go_simp; done) | (go_simp; rfl)); intro gb584 hg w35 hbox hb; have n0_ := aM (below_step (bU HB.out) hb); have n1_ := aM (hbox); have n2_ := aM ((by rw [hg]; exact (below_size (bU HB.out)) : w.heap.size ≤ gb584)); have n3_ := aM ((by rw [hg]; exact (below_size (bU HB.out)) : w.heap.size ≤ gb584)); clear HB; have HB := n0_; have BK584 := n1_; have GW584 := n2_; have GE584 := n3_; clear n0_ n1_ n2_ n3_; clear hb hbox hg; obtain ⟨hcz36_0, hcz36_1, hcz36_2, hfz36_0, hfz36_1, hfz36_2⟩ := cz3 BK584.out) | ((with_reducible refine gate_callee (f := 11) rfl ?_); refine goesLq (some 10) rfl rfl Tryd.func11 #[.agg #[.slice A0_0 l0_0.length c0_0, .slice A0_1 l0_1.length c0_1, .slice A0_2 l0_2.length c0_2]] rfl ?_; (with_reducible refine (party_Check.calls k _ _ l0_0 _ _ l0_1 _ _ l0_2 t585 _ ?side1 ?side2 ?side3 ?side4 ?side5 ?side6 A4.out).mono ?_); (case side1 => exact Kd.C_up (Kd.C_below HR0_0.out HB.out)); (case side2 => exact HC0_0.out); (case side3 => exact Kd.C_up (Kd.C_below HR0_1.out HB.out)); (case side4 => exact HC0_1.out); (case side5 => exact Kd.C_up (Kd.C_below HR0_2.out HB.out)); (case side6 => exact HC0_2.out); rintro e w37 ⟨rfl, hb⟩; refine ⟨_, rfl, ?_⟩; have n0_ := aM (blk_below (kU BK584.out) hb); have n1_ := aM (below_step (bU HB.out) hb); clear BK584; clear HB; have BK584 := n0_; have HB := n1_; clear n0_ n1_; (try clear hb); (try clear hb2); (try clear hk); (try clear hi)))
  go_ret2
  exact ⟨by first | rfl | (simp [errW_none, errW_some] <;> rfl) | (simp [*, errW_none, errW_some] <;> rfl), bU HB.out⟩

/-! ### insolvencylaw8_PartyChain: function 7 -/
mutual
def insolvencylaw8_PartyChain.l0 : Nat → Int → Int → List Int → List (S36) → List (S38) → Option (Bool)
 | 0, _, _, _, _, _ => none
 | k + 1, x25, x26, x602000, x602001, x602002 => if x26 < x25 then ((party_Controlled.f k x602000 x602001 x602002 x26).bind fun bt603 => (if bt603.2 = 0 then (insolvencylaw8_PartyChain.l1 k x26 x25 x26 bt603.1 (bt603.1.length : Int) 0 x602000 x602001 x602002) else (some false))) else ((insolvencylaw8_awake.f k).bind fun t602 => (some t602))
def insolvencylaw8_PartyChain.l1 : Nat → Int → Int → Int → List Int → Int → Int → List Int → List (S36) → List (S38) → Option (Bool)
 | 0, _, _, _, _, _, _, _, _, _ => none
 | k + 1, x8, x25, x26, x37, x38, x39, x602000, x602001, x602002 => if x39 < x38 then (if 0 ≤ x39 then (if x39 < (x37.length : Int) then ((party_Controlled.f k x602000 x602001 x602002 (rd x37 x39)).bind fun bt608 => (insolvencylaw8_PartyChain.l2 k x8 x25 x26 x37 x38 x39 bt608.1 (bt608.1.length : Int) 0 x602000 x602001 x602002)) else (none)) else (none)) else (insolvencylaw8_PartyChain.l0 k x25 (wrap64 (x26 + 1)) x602000 x602001 x602002)
def insolvencylaw8_PartyChain.l2 : Nat → Int → Int → Int → List Int → Int → Int → List Int → Int → Int → List Int → List (S36) → List (S38) → Option (Bool)
 | 0, _, _, _, _, _, _, _, _, _, _, _, _ => none
 | k + 1, x8, x25, x26, x37, x38, x39, x49, x50, x51, x602000, x602001, x602002 => if x51 < x50 then (if 0 ≤ x51 then (if x51 < (x49.length : Int) then ((party_Controls.f k x602000 x602001 x602002 x8 (rd x49 x51)).bind fun bt613 => (if (rd x49 x51) = x8 then (insolvencylaw8_PartyChain.l2 k x8 x25 x26 x37 x38 x39 x49 x50 (wrap64 (x51 + 1)) x602000 x602001 x602002) else (if bt613.1 = true then (insolvencylaw8_PartyChain.l2 k x8 x25 x26 x37 x38 x39 x49 x50 (wrap64 (x51 + 1)) x602000 x602001 x602002) else (some false)))) else (none)) else (none)) else (insolvencylaw8_PartyChain.l1 k x8 x25 x26 x37 x38 (wrap64 (x39 + 1)) x602000 x602001 x602002)
end
def insolvencylaw8_PartyChain.f (k : Nat) (a0 : Int) (a1 : Int) (l2 : List (S65)) : Option (Bool) := (insolvencylaw0_Parties.f k a0 a1 l2 ([] : List (S66))).bind fun bt592 => (insolvencylaw8_PartyChain.l0 k (bt592.1.length : Int) 0 bt592.1 bt592.2.1 bt592.2.2)
theorem insolvencylaw8_PartyChain.mono_l : ∀ k, (∀ y0 y1 y2 y3 y4, LeO (insolvencylaw8_PartyChain.l0 k y0 y1 y2 y3 y4) (insolvencylaw8_PartyChain.l0 (k + 1) y0 y1 y2 y3 y4)) ∧ (∀ y0 y1 y2 y3 y4 y5 y6 y7 y8, LeO (insolvencylaw8_PartyChain.l1 k y0 y1 y2 y3 y4 y5 y6 y7 y8) (insolvencylaw8_PartyChain.l1 (k + 1) y0 y1 y2 y3 y4 y5 y6 y7 y8)) ∧ (∀ y0 y1 y2 y3 y4 y5 y6 y7 y8 y9 y10 y11, LeO (insolvencylaw8_PartyChain.l2 k y0 y1 y2 y3 y4 y5 y6 y7 y8 y9 y10 y11) (insolvencylaw8_PartyChain.l2 (k + 1) y0 y1 y2 y3 y4 y5 y6 y7 y8 y9 y10 y11))
 | 0 => ⟨fun _ _ _ _ _ r h => by simp [insolvencylaw8_PartyChain.l0] at h, fun _ _ _ _ _ _ _ _ _ r h => by simp [insolvencylaw8_PartyChain.l1] at h, fun _ _ _ _ _ _ _ _ _ _ _ _ r h => by simp [insolvencylaw8_PartyChain.l2] at h⟩
 | k + 1 => by
  obtain ⟨ih0, ih1, ih2⟩ := insolvencylaw8_PartyChain.mono_l k
  refine ⟨?_, ?_, ?_⟩
  ·intro y0 y1 y2 y3 y4
   unfold insolvencylaw8_PartyChain.l0
   repeat' first
   | (with_reducible exact ih0 _ _ _ _ _)
   | (with_reducible exact ih1 _ _ _ _ _ _ _ _ _)
   | (with_reducible exact ih2 _ _ _ _ _ _ _ _ _ _ _ _)
   | (with_reducible exact insolvencylaw0_Parties.mono _ _ _ _ _)
   | (with_reducible exact insolvencylaw8_awake.mono _)
   | (with_reducible exact party_Controlled.mono _ _ _ _ _)
   | (with_reducible exact party_Controls.mono _ _ _ _ _ _)
   | (with_reducible exact LeO.refl _)
   | (with_reducible exact LeO.none _)
   | (with_reducible refine LeO.ite ?_ ?_)
   | (with_reducible refine LeO.bind ?_ (fun _ => ?_))
   | exact LeO.none _
   | refine LeO.ite ?_ ?_
   | refine LeO.bind ?_ (fun _ => ?_)
  ·intro y0 y1 y2 y3 y4 y5 y6 y7 y8
   unfold insolvencylaw8_PartyChain.l1
   repeat' first
   | (with_reducible exact ih0 _ _ _ _ _)
   | (with_reducible exact ih1 _ _ _ _ _ _ _ _ _)
   | (with_reducible exact ih2 _ _ _ _ _ _ _ _ _ _ _ _)
   | (with_reducible exact insolvencylaw0_Parties.mono _ _ _ _ _)
   | (with_reducible exact insolvencylaw8_awake.mono _)
   | (with_reducible exact party_Controlled.mono _ _ _ _ _)
   | (with_reducible exact party_Controls.mono _ _ _ _ _ _)
   | (with_reducible exact LeO.refl _)
   | (with_reducible exact LeO.none _)
   | (with_reducible refine LeO.ite ?_ ?_)
   | (with_reducible refine LeO.bind ?_ (fun _ => ?_))
   | exact LeO.none _
   | refine LeO.ite ?_ ?_
   | refine LeO.bind ?_ (fun _ => ?_)
  ·intro y0 y1 y2 y3 y4 y5 y6 y7 y8 y9 y10 y11
   unfold insolvencylaw8_PartyChain.l2
   repeat' first
   | (with_reducible exact ih0 _ _ _ _ _)
   | (with_reducible exact ih1 _ _ _ _ _ _ _ _ _)
   | (with_reducible exact ih2 _ _ _ _ _ _ _ _ _ _ _ _)
   | (with_reducible exact insolvencylaw0_Parties.mono _ _ _ _ _)
   | (with_reducible exact insolvencylaw8_awake.mono _)
   | (with_reducible exact party_Controlled.mono _ _ _ _ _)
   | (with_reducible exact party_Controls.mono _ _ _ _ _ _)
   | (with_reducible exact LeO.refl _)
   | (with_reducible exact LeO.none _)
   | (with_reducible refine LeO.ite ?_ ?_)
   | (with_reducible refine LeO.bind ?_ (fun _ => ?_))
   | exact LeO.none _
   | refine LeO.ite ?_ ?_
   | refine LeO.bind ?_ (fun _ => ?_)
theorem insolvencylaw8_PartyChain.mono : ∀ a0 a1 a2 k, LeO (insolvencylaw8_PartyChain.f k a0 a1 a2) (insolvencylaw8_PartyChain.f (k + 1) a0 a1 a2) := by
 intro a0 a1 a2 k
 obtain ⟨ih0, ih1, ih2⟩ := insolvencylaw8_PartyChain.mono_l k
 unfold insolvencylaw8_PartyChain.f
 repeat' first
   | (with_reducible exact ih0 _ _ _ _ _)
   | (with_reducible exact ih1 _ _ _ _ _ _ _ _ _)
   | (with_reducible exact ih2 _ _ _ _ _ _ _ _ _ _ _ _)
   | (with_reducible exact insolvencylaw0_Parties.mono _ _ _ _ _)
   | (with_reducible exact insolvencylaw8_awake.mono _)
   | (with_reducible exact party_Controlled.mono _ _ _ _ _)
   | (with_reducible exact party_Controls.mono _ _ _ _ _ _)
   | (with_reducible exact LeO.refl _)
   | (with_reducible exact LeO.none _)
   | (with_reducible refine LeO.ite ?_ ?_)
   | (with_reducible refine LeO.bind ?_ (fun _ => ?_))
   | exact LeO.none _
   | refine LeO.ite ?_ ?_
   | refine LeO.bind ?_ (fun _ => ?_)
set_option maxHeartbeats 8000000 in
set_option maxRecDepth 100000 in
theorem insolvencylaw8_PartyChain.calls (k : Nat) (a0 : Int) (a1 : Int) (A2 : Option Addr) (c2 : Nat) (l2 : List (S65)) (r : Bool) (w : World) (hr2 : Kd.C k65 w A2 l2.length l2) (hc2 : l2.length ≤ c2) (h : insolvencylaw8_PartyChain.f k a0 a1 l2 = some r) :
  Calls Tryd.prog 7 #[.int .u8 a0, .int .u16 a1, .slice A2 l2.length c2] w fun e w' => e = .returned (.bool r) ∧ Below w.heap.size w w' := by
 have hu26 := Tryd.underlying26
 have HR2 := Aside0.mk hr2
 have HC2 := Aside0.mk hc2
 clear hr2 hc2
 have HB := aM (Below.refl w.heap.size w)
 have H : ((insolvencylaw0_Parties.f k a0 a1 l2 ([] : List (S66))).bind fun bt592 => (insolvencylaw8_PartyChain.l0 k (bt592.1.length : Int) 0 bt592.1 bt592.2.1 bt592.2.2)) = some r := h
 clear h
 replace H := bE H
 obtain ⟨⟨t592, t595, t598⟩, A40, H⟩ := H
 replace H : (insolvencylaw8_PartyChain.l0 k (t592.length : Int) 0 t592 t595 t598) = some r := H
 have A4 := Aside0.mk A40
 clear A40
 have H' := Aside0.mk H
 clear H
 go_enter Tryd.func7, Tryd.ntmps7
 go_wp2_with (first | ((with_reducible refine gate_callee (f := 14) rfl ?_); refine goesLq (some 22) rfl rfl Tryd.func14 #[.int .u8 a0, .int .u16 a1, .slice A2 l2.length c2, .slice none 0 0] rfl ?_; (refine (insolvencylaw0_Parties.calls k a0 a1 _ _ l2 _ _ ([] : List (S66)) t592 t595 t598 _ ?side1 ?side2 ?side3 ?side4 A4.out).mono ?_); (case side1 => repeat (first | exact HR2.out | (with_reducible refine Kd.C_alloc ?_ _) | (with_reducible refine Kd.C_drewN ?_ _) | (with_reducible refine Kd.C_drew ?_))); (case side2 => exact HC2.out); (case side3 => exact Kd.C_nil _ _); (case side4 => exact Nat.le_refl _); rintro e w5 ⟨v593, v596, v599, rfl, ho0, ho1, ho2, hb⟩; refine ⟨_, rfl, ?_⟩; have n0_ := aM (Kd.R_lower ho0 (below_size (bU HB.out))); have n1_ := aM (Kd.R_lower ho1 (below_size (bU HB.out))); have n2_ := aM (Kd.R_lower ho2 (below_size (bU HB.out))); have n3_ := aM (below_step (bU HB.out) hb); clear HB; have HO594 := n0_; have HO597 := n1_; have HO600 := n2_; have HB := n3_; clear n0_ n1_ n2_ n3_; (try clear hb); (try clear hb2); (try clear hk); (try clear hi); (try clear ho0); (try clear ho1); (try clear ho2)) | ((with_reducible refine gate_dst (N := 7) rfl ?_); refine box_event ?hg (N := 7) ?hd (cs := #[.slice none 0 0, .slice none 0 0, .slice none 0 0]) (t := 26) ?hr ?_; (case hd => rfl); (case hg => rfl); (case hr => first | (go_simp; done) | (go_simp; rfl)); intro gb601 hg w6 hbox hb; have n0_ := aM (Kd.R_below (Kd.R_up HO594.out) hb); have n1_ := aM (Kd.R_below (Kd.R_up HO597.out) hb); have n2_ := aM (Kd.R_below (Kd.R_up HO600.out) hb); have n3_ := aM (below_step (bU HB.out) hb); have n4_ := aM (hbox); have n5_ := aM ((by rw [hg]; exact (below_size (bU HB.out)) : w.heap.size ≤ gb601)); have n6_ := aM ((by rw [hg]; exact (below_size (bU HB.out)) : w.heap.size ≤ gb601)); clear HO594; clear HO597; clear HO600; clear HB; have HO594 := n0_; have HO597 := n1_; have HO600 := n2_; have HB := n3_; have BK601 := n4_; have GW601 := n5_; have GE601 := n6_; clear n0_ n1_ n2_ n3_ n4_ n5_ n6_; clear hb hbox hg; obtain ⟨Ao7, co7, eo7⟩ := Kd.R_slice HO594.out; subst eo7; obtain ⟨hcz8_0, hcz8_1, hcz8_2, hfz8_0, hfz8_1, hfz8_2⟩ := cz3 BK601.out; obtain ⟨Ao9, co9, eo9⟩ := Kd.R_slice HO597.out; subst eo9; obtain ⟨Ao10, co10, eo10⟩ := Kd.R_slice HO600.out; subst eo10))
 go_loopg [26] k (fun kq v26 w' => ∃ (x26_1 : Int), v26 = .int .i64 x26_1 ∧ Aside0 (insolvencylaw8_PartyChain.l0 kq (t592.length : Int) x26_1 t592 t595 t598 = some r) ∧ Aside0 (kq ≤ k) ∧ Aside0 (Kd.R (Kd.int .i64) 3 w' w.heap.size (fun _ => True) (.slice Ao7 t592.length co7) t592) ∧ Aside0 (Kd.R k36 36 w' w.heap.size (fun _ => True) (.slice Ao9 t595.length co9) t595) ∧ Aside0 (Kd.R k38 38 w' w.heap.size (fun _ => True) (.slice Ao10 t598.length co10) t598) ∧ Aside0 (w'.heap[gb601]? = some (.cells #[(.slice Ao7 t592.length co7), (.slice Ao9 t595.length co9), (.slice Ao10 t598.length co10)] 26 (0, 0))) ∧ Aside0 (Below w.heap.size w w'))
 case atStart => exact ⟨(0), (by first | rfl | (simp; done) | (simp [*]; done)), H', ⟨Nat.le_refl _⟩, ⟨Kd.R_up (Kd.R_mono (Kd.R_far (p := ⟨gb601, 2, none⟩) (Kd.R_far (p := ⟨gb601, 1, none⟩) (Kd.R_far (p := ⟨gb601, 0, none⟩) (Kd.R_types HO594.out BK601.out (by decide)) (fun _ hk => hk.2) (.slice Ao7 t592.length co7)) (fun _ hk => hk.2) (.slice Ao9 t595.length co9)) (fun _ hk => hk.2) (.slice Ao10 t598.length co10)) (fun _ hk => trivial))⟩, ⟨Kd.R_up (Kd.R_mono (Kd.R_far (p := ⟨gb601, 2, none⟩) (Kd.R_far (p := ⟨gb601, 1, none⟩) (Kd.R_far (p := ⟨gb601, 0, none⟩) (Kd.R_types HO597.out BK601.out (by decide)) (fun _ hk => hk.2) (.slice Ao7 t592.length co7)) (fun _ hk => hk.2) (.slice Ao9 t595.length co9)) (fun _ hk => hk.2) (.slice Ao10 t598.length co10)) (fun _ hk => trivial))⟩, ⟨Kd.R_up (Kd.R_mono (Kd.R_far (p := ⟨gb601, 2, none⟩) (Kd.R_far (p := ⟨gb601, 1, none⟩) (Kd.R_far (p := ⟨gb601, 0, none⟩) (Kd.R_types HO600.out BK601.out (by decide)) (fun _ hk => hk.2) (.slice Ao7 t592.length co7)) (fun _ hk => hk.2) (.slice Ao9 t595.length co9)) (fun _ hk => hk.2) (.slice Ao10 t598.length co10)) (fun _ hk => trivial))⟩, ⟨kP BK601.out⟩, ⟨bU HB.out⟩⟩
 case round =>
  clear H'
  try clear c1
  try clear c2
  try clear p2
  try clear c7
  try clear hcz8_0 hcz8_1 hcz8_2
  try clear hfz8_0 hfz8_1 hfz8_2
  obtain ⟨x26_1, rfl, HA, HK1, HO_602000, HO_602001, HO_602002, BK601, HB⟩ := hrel
  cases gk with
  | zero => exact absurd HA.out (by simp [insolvencylaw8_PartyChain.l0])
  | succ k1 =>
   have H := HA.out
   clear HA
   simp only [insolvencylaw8_PartyChain.l0] at H
   by_cases c11 : x26_1 < (t592.length : Int)
   ·rw [if_pos c11] at H
    have c11b0 : decide (x26_1 < (t592.length : Int)) = true := decide_eq_true c11
    clear c11
    replace H := bE H
    obtain ⟨⟨t603, t606⟩, A120, H⟩ := H
    replace H : (if t606 = 0 then (insolvencylaw8_PartyChain.l1 k1 x26_1 (t592.length : Int) x26_1 t603 (t603.length : Int) 0 t592 t595 t598) else (some false)) = some r := H
    have A12 := Aside0.mk A120
    clear A120
    by_cases c13 : t606 = 0
    ·rw [if_pos c13] at H
     have c13b0 : (t606 == 0) = true := beq_iff_eq.mpr c13
     have c13b1 : (t606 != 0) = false := bne_eq_false_iff_eq.mpr c13
     clear c13
     have H' := Aside0.mk H
     clear H
     obtain ⟨hcz14_0, hcz14_1, hcz14_2, hfz14_0, hfz14_1, hfz14_2⟩ := cz3 BK601.out
     go_wp2_with (first | ((with_reducible refine gate_callee (f := 15) rfl ?_); refine goesLq (some 32) rfl rfl Tryd.func15 #[.agg #[.slice Ao7 t592.length co7, .slice Ao9 t595.length co9, .slice Ao10 t598.length co10], .int .i64 x26_1] rfl ?_; (with_reducible refine (party_Controlled.calls k1 _ _ t592 _ _ t595 _ _ t598 x26_1 t603 t606 _ ?side1 ?side2 ?side3 ?side4 ?side5 ?side6 A12.out).mono ?_); (case side1 => exact Kd.C_up (Kd.R_reads' HO_602000.out).2.2); (case side2 => exact (Kd.R_reads' HO_602000.out).2.1); (case side3 => exact Kd.C_up (Kd.R_reads' HO_602001.out).2.2); (case side4 => exact (Kd.R_reads' HO_602001.out).2.1); (case side5 => exact Kd.C_up (Kd.R_reads' HO_602002.out).2.2); (case side6 => exact (Kd.R_reads' HO_602002.out).2.1); rintro e w15 ⟨v604, rfl, ho0, hb⟩; refine ⟨_, rfl, ?_⟩; have n0_ := aM (Kd.R_elder' (Kd.R_up HO_602000.out) (Kd.R_base ho0) hb); have n1_ := aM (Kd.R_below (Kd.R_up HO_602001.out) hb); have n2_ := aM (Kd.R_below (Kd.R_up HO_602002.out) hb); have n3_ := aM (Kd.R_lower (Kd.R_new' ho0 (Kd.R_lt (Kd.R_up HO_602000.out))) (below_size (bU HB.out))); have n4_ := aM (blk_below (kU BK601.out) hb); have n5_ := aM (below_step (bU HB.out) hb); clear HO_602000; clear HO_602001; clear HO_602002; clear BK601; clear HB; have HO_602000 := n0_; have HO_602001 := n1_; have HO_602002 := n2_; have HO605 := n3_; have BK601 := n4_; have HB := n5_; clear n0_ n1_ n2_ n3_ n4_ n5_; (try clear hb); (try clear hb2); (try clear hk); (try clear hi); (try clear ho0); obtain ⟨Ao16, co16, eo16⟩ := Kd.R_slice HO605.out; subst eo16))
     go_loopg [39] k1 (fun kq v39 w' => ∃ (x39_2 : Int), v39 = .int .i64 x39_2 ∧ Aside0 (insolvencylaw8_PartyChain.l1 kq x26_1 (t592.length : Int) x26_1 t603 (t603.length : Int) x39_2 t592 t595 t598 = some r) ∧ Aside0 (kq ≤ k1) ∧ Aside0 (Kd.R (Kd.int .i64) 3 w' w.heap.size (fun k_ => some k_ ≠ ((.slice Ao7 t592.length co7) : Value).ownBlock) (.slice Ao16 t603.length co16) t603) ∧ Aside0 (Kd.R (Kd.int .i64) 3 w' w.heap.size (fun k_ => some k_ ≠ ((.slice Ao16 t603.length co16) : Value).ownBlock) (.slice Ao7 t592.length co7) t592) ∧ Aside0 (Kd.R k36 36 w' w.heap.size (fun _ => True) (.slice Ao9 t595.length co9) t595) ∧ Aside0 (Kd.R k38 38 w' w.heap.size (fun _ => True) (.slice Ao10 t598.length co10) t598) ∧ Aside0 (w'.heap[gb601]? = some (.cells #[(.slice Ao7 t592.length co7), (.slice Ao9 t595.length co9), (.slice Ao10 t598.length co10)] 26 (0, 0))) ∧ Aside0 (Below w.heap.size w w'))
     case atStart => exact ⟨(0), (by first | rfl | (simp; done) | (simp [*]; done)), H', ⟨Nat.le_refl _⟩, ⟨Kd.R_up (Kd.R_mono HO605.out (fun _ hk => hk.2))⟩, ⟨Kd.R_up (Kd.R_mono HO_602000.out (fun _ hk => hk.2))⟩, ⟨Kd.R_up HO_602001.out⟩, ⟨Kd.R_up HO_602002.out⟩, ⟨kU BK601.out⟩, ⟨bU HB.out⟩⟩
     case round =>
      clear H'
      try clear c1
      try clear c2
      try clear p2
      try clear c7
      try clear c11
      try clear c11b0
      try clear c13
      try clear c13b0
      try clear c13b1
      try clear c14
      try clear c15
      try clear hcz14_0 hcz14_1 hcz14_2
      try clear hcz8_0 hcz8_1 hcz8_2
      try clear hfz14_0 hfz14_1 hfz14_2
      try clear hfz8_0 hfz8_1 hfz8_2
      try clear p2
      obtain ⟨x39_2, rfl, HA, HK2, HO_37, HO_602000, HO_602001, HO_602002, BK601, HB⟩ := hrel
      cases gk with
      | zero => exact absurd HA.out (by simp [insolvencylaw8_PartyChain.l1])
      | succ k2 =>
       have H := HA.out
       clear HA
       simp only [insolvencylaw8_PartyChain.l1] at H
       by_cases c17 : x39_2 < (t603.length : Int)
       ·rw [if_pos c17] at H
        have c17b0 : decide (x39_2 < (t603.length : Int)) = true := decide_eq_true c17
        clear c17
        by_cases c18 : 0 ≤ x39_2
        ·rw [if_pos c18] at H
         have c18b0 : decide (0 ≤ x39_2) = true := decide_eq_true c18
         clear c18
         by_cases c19 : x39_2 < (t603.length : Int)
         ·rw [if_pos c19] at H
          have c19b0 : decide (x39_2 < (t603.length : Int)) = true := decide_eq_true c19
          clear c19
          replace H := bE H
          obtain ⟨⟨t608, t611⟩, A200, H⟩ := H
          replace H : (insolvencylaw8_PartyChain.l2 k2 x26_1 (t592.length : Int) x26_1 t603 (t603.length : Int) x39_2 t608 (t608.length : Int) 0 t592 t595 t598) = some r := H
          have A20 := Aside0.mk A200
          clear A200
          have H' := Aside0.mk H
          clear H
          have p607 : 0 ≤ (x39_2 : Int) := oD
          have q607 : x39_2 < (t603.length : Int) := oD
          obtain ⟨ad607, e607, hx607_0⟩ := Kd.at_int (Kd.R_reads' HO_37.out).2.2 x39_2 p607 q607
          cases e607
          replace p607 := eq_true p607
          replace q607 := eq_true q607
          obtain ⟨hcz21_0, hcz21_1, hcz21_2, hfz21_0, hfz21_1, hfz21_2⟩ := cz3 BK601.out
          go_wp2_with (first | ((with_reducible refine gate_callee (f := 15) rfl ?_); refine goesLq (some 46) rfl rfl Tryd.func15 #[.agg #[.slice Ao7 t592.length co7, .slice Ao9 t595.length co9, .slice Ao10 t598.length co10], .int .i64 (rd t603 x39_2)] rfl ?_; (with_reducible refine (party_Controlled.calls k2 _ _ t592 _ _ t595 _ _ t598 (rd t603 x39_2) t608 t611 _ ?side1 ?side2 ?side3 ?side4 ?side5 ?side6 A20.out).mono ?_); (case side1 => exact Kd.C_up (Kd.R_reads' HO_602000.out).2.2); (case side2 => exact (Kd.R_reads' HO_602000.out).2.1); (case side3 => exact Kd.C_up (Kd.R_reads' HO_602001.out).2.2); (case side4 => exact (Kd.R_reads' HO_602001.out).2.1); (case side5 => exact Kd.C_up (Kd.R_reads' HO_602002.out).2.2); (case side6 => exact (Kd.R_reads' HO_602002.out).2.1); rintro e w22 ⟨v609, rfl, ho0, hb⟩; refine ⟨_, rfl, ?_⟩; have n0_ := aM (Kd.R_elder' (Kd.R_up HO_37.out) (Kd.R_base ho0) hb); have n1_ := aM (Kd.R_elder' (Kd.R_up HO_602000.out) (Kd.R_base ho0) hb); have n2_ := aM (Kd.R_below (Kd.R_up HO_602001.out) hb); have n3_ := aM (Kd.R_below (Kd.R_up HO_602002.out) hb); have n4_ := aM (Kd.R_lower (Kd.R_new' (Kd.R_new' ho0 (Kd.R_lt (Kd.R_up HO_37.out))) (Kd.R_lt (Kd.R_up HO_602000.out))) (below_size (bU HB.out))); have n5_ := aM (blk_below (kU BK601.out) hb); have n6_ := aM (below_step (bU HB.out) hb); clear HO_37; clear HO_602000; clear HO_602001; clear HO_602002; clear BK601; clear HB; have HO_37 := n0_; have HO_602000 := n1_; have HO_602001 := n2_; have HO_602002 := n3_; have HO610 := n4_; have BK601 := n5_; have HB := n6_; clear n0_ n1_ n2_ n3_ n4_ n5_ n6_; (try clear hb); (try clear hb2); (try clear hk); (try clear hi); (try clear ho0); obtain ⟨Ao23, co23, eo23⟩ := Kd.R_slice HO610.out; subst eo23))
          go_loopg [51] k2 (fun kq v51 w' => ∃ (x51_3 : Int), v51 = .int .i64 x51_3 ∧ Aside0 (insolvencylaw8_PartyChain.l2 kq x26_1 (t592.length : Int) x26_1 t603 (t603.length : Int) x39_2 t608 (t608.length : Int) x51_3 t592 t595 t598 = some r) ∧ Aside0 (kq ≤ k2) ∧ Aside0 (Kd.R (Kd.int .i64) 3 w' w.heap.size (fun k_ => some k_ ≠ ((.slice Ao23 t608.length co23) : Value).ownBlock ∧ some k_ ≠ ((.slice Ao7 t592.length co7) : Value).ownBlock) (.slice (some ad607) t603.length co16) t603) ∧ Aside0 (Kd.R (Kd.int .i64) 3 w' w.heap.size (fun k_ => some k_ ≠ ((.slice (some ad607) t603.length co16) : Value).ownBlock ∧ some k_ ≠ ((.slice Ao7 t592.length co7) : Value).ownBlock) (.slice Ao23 t608.length co23) t608) ∧ Aside0 (Kd.R (Kd.int .i64) 3 w' w.heap.size (fun k_ => some k_ ≠ ((.slice (some ad607) t603.length co16) : Value).ownBlock ∧ some k_ ≠ ((.slice Ao23 t608.length co23) : Value).ownBlock) (.slice Ao7 t592.length co7) t592) ∧ Aside0 (Kd.R k36 36 w' w.heap.size (fun _ => True) (.slice Ao9 t595.length co9) t595) ∧ Aside0 (Kd.R k38 38 w' w.heap.size (fun _ => True) (.slice Ao10 t598.length co10) t598) ∧ Aside0 (w'.heap[gb601]? = some (.cells #[(.slice Ao7 t592.length co7), (.slice Ao9 t595.length co9), (.slice Ao10 t598.length co10)] 26 (0, 0))) ∧ Aside0 (Below w.heap.size w w'))
          case atStart => exact ⟨(0), (by first | rfl | (simp; done) | (simp [*]; done)), H', ⟨Nat.le_refl _⟩, ⟨Kd.R_up (Kd.R_mono HO_37.out (fun _ hk => ⟨hk.2, hk.1⟩))⟩, ⟨Kd.R_up (Kd.R_mono HO610.out (fun _ hk => ⟨hk.1.2, hk.2⟩))⟩, ⟨Kd.R_up HO_602000.out⟩, ⟨Kd.R_up HO_602001.out⟩, ⟨Kd.R_up HO_602002.out⟩, ⟨kU BK601.out⟩, ⟨bU HB.out⟩⟩
          case round =>
           clear H'
           try clear c1
           try clear c2
           try clear p2
           try clear p6
           try clear q6
           try clear hx6
           try clear c7
           try clear c11
           try clear c11b0
           try clear c13
           try clear c13b0
           try clear c13b1
           try clear c14
           try clear c15
           try clear c17
           try clear c17b0
           try clear c18
           try clear c18b0
           try clear c19
           try clear c19b0
           try clear hcz14_0 hcz14_1 hcz14_2
           try clear hcz21_0 hcz21_1 hcz21_2
           try clear hcz8_0 hcz8_1 hcz8_2
           try clear hfz14_0 hfz14_1 hfz14_2
           try clear hfz21_0 hfz21_1 hfz21_2
           try clear hfz8_0 hfz8_1 hfz8_2
           try clear hx607_0
           try clear p2
           try clear p607
           try clear q607
           obtain ⟨x51_3, rfl, HA, HK3, HO_37, HO_49, HO_602000, HO_602001, HO_602002, BK601, HB⟩ := hrel
           cases gk with
           | zero => exact absurd HA.out (by simp [insolvencylaw8_PartyChain.l2])
           | succ k3 =>
            have H := HA.out
            clear HA
            simp only [insolvencylaw8_PartyChain.l2] at H
            by_cases c24 : x51_3 < (t608.length : Int)
            ·rw [if_pos c24] at H
             have c24b0 : decide (x51_3 < (t608.length : Int)) = true := decide_eq_true c24
             clear c24
             by_cases c25 : 0 ≤ x51_3
             ·rw [if_pos c25] at H
              have c25b0 : decide (0 ≤ x51_3) = true := decide_eq_true c25
              clear c25
              by_cases c26 : x51_3 < (t608.length : Int)
              ·rw [if_pos c26] at H
               have c26b0 : decide (x51_3 < (t608.length : Int)) = true := decide_eq_true c26
               clear c26
               replace H := bE H
               obtain ⟨⟨t613, t614⟩, A270, H⟩ := H
               replace H : (if (rd t608 x51_3) = x26_1 then (insolvencylaw8_PartyChain.l2 k3 x26_1 (t592.length : Int) x26_1 t603 (t603.length : Int) x39_2 t608 (t608.length : Int) (wrap64 (x51_3 + 1)) t592 t595 t598) else (if t613 = true then (insolvencylaw8_PartyChain.l2 k3 x26_1 (t592.length : Int) x26_1 t603 (t603.length : Int) x39_2 t608 (t608.length : Int) (wrap64 (x51_3 + 1)) t592 t595 t598) else (some false))) = some r := H
               have A27 := Aside0.mk A270
               clear A270
               by_cases c28 : (rd t608 x51_3) = x26_1
               ·rw [if_pos c28] at H
                have c28b0 : ((rd t608 x51_3) == x26_1) = true := beq_iff_eq.mpr c28
                have c28b1 : ((rd t608 x51_3) != x26_1) = false := bne_eq_false_iff_eq.mpr c28
                clear c28
                have H' := Aside0.mk H
                clear H
                have p612 : 0 ≤ (x51_3 : Int) := oD
                have q612 : x51_3 < (t608.length : Int) := oD
                obtain ⟨ad612, e612, hx612_0⟩ := Kd.at_int (Kd.R_reads' HO_49.out).2.2 x51_3 p612 q612
                cases e612
                replace p612 := eq_true p612
                replace q612 := eq_true q612
                obtain ⟨hcz29_0, hcz29_1, hcz29_2, hfz29_0, hfz29_1, hfz29_2⟩ := cz3 BK601.out
                go_wp2_with (first | ((with_reducible refine gate_callee (f := 18) rfl ?_); refine goesLq (some 59) rfl rfl Tryd.func18 #[.agg #[.slice Ao7 t592.length co7, .slice Ao9 t595.length co9, .slice Ao10 t598.length co10], .int .i64 x26_1, .int .i64 (rd t608 x51_3)] rfl ?_; (with_reducible refine (party_Controls.calls k3 _ _ t592 _ _ t595 _ _ t598 x26_1 (rd t608 x51_3) t613 t614 _ ?side1 ?side2 ?side3 ?side4 ?side5 ?side6 A27.out).mono ?_); (case side1 => exact Kd.C_up (Kd.R_reads' HO_602000.out).2.2); (case side2 => exact (Kd.R_reads' HO_602000.out).2.1); (case side3 => exact Kd.C_up (Kd.R_reads' HO_602001.out).2.2); (case side4 => exact (Kd.R_reads' HO_602001.out).2.1); (case side5 => exact Kd.C_up (Kd.R_reads' HO_602002.out).2.2); (case side6 => exact (Kd.R_reads' HO_602002.out).2.1); rintro e w30 ⟨rfl, hb⟩; refine ⟨_, rfl, ?_⟩; have n0_ := aM (Kd.R_below (Kd.R_up HO_37.out) hb); have n1_ := aM (Kd.R_below (Kd.R_up HO_49.out) hb); have n2_ := aM (Kd.R_below (Kd.R_up HO_602000.out) hb); have n3_ := aM (Kd.R_below (Kd.R_up HO_602001.out) hb); have n4_ := aM (Kd.R_below (Kd.R_up HO_602002.out) hb); have n5_ := aM (blk_below (kU BK601.out) hb); have n6_ := aM (below_step (bU HB.out) hb); clear HO_37; clear HO_49; clear HO_602000; clear HO_602001; clear HO_602002; clear BK601; clear HB; have HO_37 := n0_; have HO_49 := n1_; have HO_602000 := n2_; have HO_602001 := n3_; have HO_602002 := n4_; have BK601 := n5_; have HB := n6_; clear n0_ n1_ n2_ n3_ n4_ n5_ n6_; (try clear hb); (try clear hb2); (try clear hk); (try clear hi)))
                go_roundg k3
                case measure => have := HK1.out; have := HK2.out; have := HK3.out; omega
                case rel => exact ⟨(wrap64 (x51_3 + 1)), (by first | rfl | (simp; done) | (simp [*]; done)), H', ⟨by have := HK1.out; have := HK2.out; have := HK3.out; omega⟩, ⟨Kd.R_up HO_37.out⟩, ⟨Kd.R_up HO_49.out⟩, ⟨Kd.R_up HO_602000.out⟩, ⟨Kd.R_up HO_602001.out⟩, ⟨Kd.R_up HO_602002.out⟩, ⟨kU BK601.out⟩, ⟨bU HB.out⟩⟩
               ·rw [if_neg c28] at H
                have c28b0 : ((rd t608 x51_3) == x26_1) = false := beq_eq_false_iff_ne.mpr c28
                have c28b1 : ((rd t608 x51_3) != x26_1) = true := bne_iff_ne.mpr c28
                by_cases c31 : t613 = true
                ·subst c31
                 have H1 : (insolvencylaw8_PartyChain.l2 k3 x26_1 (t592.length : Int) x26_1 t603 (t603.length : Int) x39_2 t608 (t608.length : Int) (wrap64 (x51_3 + 1)) t592 t595 t598) = some r := by rw [if_pos rfl] at H; exact H
                 clear H
                 have H := H1
                 clear H1
                 have H' := Aside0.mk H
                 clear H
                 have p612 : 0 ≤ (x51_3 : Int) := oD
                 have q612 : x51_3 < (t608.length : Int) := oD
                 obtain ⟨ad612, e612, hx612_0⟩ := Kd.at_int (Kd.R_reads' HO_49.out).2.2 x51_3 p612 q612
                 cases e612
                 replace p612 := eq_true p612
                 replace q612 := eq_true q612
                 obtain ⟨hcz32_0, hcz32_1, hcz32_2, hfz32_0, hfz32_1, hfz32_2⟩ := cz3 BK601.out
                 go_wp2_with (first | ((with_reducible refine gate_callee (f := 18) rfl ?_); refine goesLq (some 59) rfl rfl Tryd.func18 #[.agg #[.slice Ao7 t592.length co7, .slice Ao9 t595.length co9, .slice Ao10 t598.length co10], .int .i64 x26_1, .int .i64 (rd t608 x51_3)] rfl ?_; (with_reducible refine (party_Controls.calls k3 _ _ t592 _ _ t595 _ _ t598 x26_1 (rd t608 x51_3) true t614 _ ?side1 ?side2 ?side3 ?side4 ?side5 ?side6 A27.out).mono ?_); (case side1 => exact Kd.C_up (Kd.R_reads' HO_602000.out).2.2); (case side2 => exact (Kd.R_reads' HO_602000.out).2.1); (case side3 => exact Kd.C_up (Kd.R_reads' HO_602001.out).2.2); (case side4 => exact (Kd.R_reads' HO_602001.out).2.1); (case side5 => exact Kd.C_up (Kd.R_reads' HO_602002.out).2.2); (case side6 => exact (Kd.R_reads' HO_602002.out).2.1); rintro e w33 ⟨rfl, hb⟩; refine ⟨_, rfl, ?_⟩; have n0_ := aM (Kd.R_below (Kd.R_up HO_37.out) hb); have n1_ := aM (Kd.R_below (Kd.R_up HO_49.out) hb); have n2_ := aM (Kd.R_below (Kd.R_up HO_602000.out) hb); have n3_ := aM (Kd.R_below (Kd.R_up HO_602001.out) hb); have n4_ := aM (Kd.R_below (Kd.R_up HO_602002.out) hb); have n5_ := aM (blk_below (kU BK601.out) hb); have n6_ := aM (below_step (bU HB.out) hb); clear HO_37; clear HO_49; clear HO_602000; clear HO_602001; clear HO_602002; clear BK601; clear HB; have HO_37 := n0_; have HO_49 := n1_; have HO_602000 := n2_; have HO_602001 := n3_; have HO_602002 := n4_; have BK601 := n5_; have HB := n6_; clear n0_ n1_ n2_ n3_ n4_ n5_ n6_; (try clear hb); (try clear hb2); (try clear hk); (try clear hi)))
                 go_roundg k3
                 case measure => have := HK1.out; have := HK2.out; have := HK3.out; omega
                 case rel => exact ⟨(wrap64 (x51_3 + 1)), (by first | rfl | (simp; done) | (simp [*]; done)), H', ⟨by have := HK1.out; have := HK2.out; have := HK3.out; omega⟩, ⟨Kd.R_up HO_37.out⟩, ⟨Kd.R_up HO_49.out⟩, ⟨Kd.R_up HO_602000.out⟩, ⟨Kd.R_up HO_602001.out⟩, ⟨Kd.R_up HO_602002.out⟩, ⟨kU BK601.out⟩, ⟨bU HB.out⟩⟩
                ·replace c31 := Bool.eq_false_iff.mpr c31
                 subst c31
                 have H1 : (some false) = some r := by rw [if_neg (show ¬ (false = true) by decide)] at H; exact H
                 clear H
                 have H := H1
                 clear H1
                 obtain rfl := Option.some.inj H
                 have p612 : 0 ≤ (x51_3 : Int) := oD
                 have q612 : x51_3 < (t608.length : Int) := oD
                 obtain ⟨ad612, e612, hx612_0⟩ := Kd.at_int (Kd.R_reads' HO_49.out).2.2 x51_3 p612 q612
                 cases e612
                 replace p612 := eq_true p612
                 replace q612 := eq_true q612
                 obtain ⟨hcz34_0, hcz34_1, hcz34_2, hfz34_0, hfz34_1, hfz34_2⟩ := cz3 BK601.out
                 go_wp2_with (first | ((with_reducible refine gate_callee (f := 18) rfl ?_); refine goesLq (some 59) rfl rfl Tryd.func18 #[.agg #[.slice Ao7 t592.length co7, .slice Ao9 t595.length co9, .slice Ao10 t598.length co10], .int .i64 x26_1, .int .i64 (rd t608 x51_3)] rfl ?_; (with_reducible refine (party_Controls.calls k3 _ _ t592 _ _ t595 _ _ t598 x26_1 (rd t608 x51_3) false t614 _ ?side1 ?side2 ?side3 ?side4 ?side5 ?side6 A27.out).mono ?_); (case side1 => exact Kd.C_up (Kd.R_reads' HO_602000.out).2.2); (case side2 => exact (Kd.R_reads' HO_602000.out).2.1); (case side3 => exact Kd.C_up (Kd.R_reads' HO_602001.out).2.2); (case side4 => exact (Kd.R_reads' HO_602001.out).2.1); (case side5 => exact Kd.C_up (Kd.R_reads' HO_602002.out).2.2); (case side6 => exact (Kd.R_reads' HO_602002.out).2.1); rintro e w35 ⟨rfl, hb⟩; refine ⟨_, rfl, ?_⟩; have n0_ := aM (Kd.R_below (Kd.R_up HO_37.out) hb); have n1_ := aM (Kd.R_below (Kd.R_up HO_49.out) hb); have n2_ := aM (Kd.R_below (Kd.R_up HO_602000.out) hb); have n3_ := aM (Kd.R_below (Kd.R_up HO_602001.out) hb); have n4_ := aM (Kd.R_below (Kd.R_up HO_602002.out) hb); have n5_ := aM (blk_below (kU BK601.out) hb); have n6_ := aM (below_step (bU HB.out) hb); clear HO_37; clear HO_49; clear HO_602000; clear HO_602001; clear HO_602002; clear BK601; clear HB; have HO_37 := n0_; have HO_49 := n1_; have HO_602000 := n2_; have HO_602001 := n3_; have HO_602002 := n4_; have BK601 := n5_; have HB := n6_; clear n0_ n1_ n2_ n3_ n4_ n5_ n6_; (try clear hb); (try clear hb2); (try clear hk); (try clear hi)))
                 go_ret
                 exact ⟨by first | rfl | (simp [errW_none, errW_some] <;> rfl) | (simp [*, errW_none, errW_some] <;> rfl), bU HB.out⟩
              ·rw [if_neg c26] at H
               exact absurd H (by simp)
             ·rw [if_neg c25] at H
              exact absurd H (by simp)
            ·rw [if_neg c24] at H
             have c24b0 : decide (x51_3 < (t608.length : Int)) = false := decide_eq_false c24
             clear c24
             have H' := Aside0.mk H
             clear H
             go_wp2
             go_roundg k3
             case measure => have := HK1.out; have := HK2.out; have := HK3.out; omega
             case rel => exact ⟨(wrap64 (x39_2 + 1)), (by first | rfl | (simp; done) | (simp [*]; done)), H', ⟨by have := HK1.out; have := HK2.out; have := HK3.out; omega⟩, ⟨Kd.R_up (Kd.R_mono HO_37.out (fun _ hk => hk.2))⟩, ⟨Kd.R_up (Kd.R_mono HO_602000.out (fun _ hk => hk.1))⟩, ⟨Kd.R_up HO_602001.out⟩, ⟨Kd.R_up HO_602002.out⟩, ⟨kU BK601.out⟩, ⟨bU HB.out⟩⟩
         ·rw [if_neg c19] at H
          exact absurd H (by simp)
        ·rw [if_neg c18] at H
         exact absurd H (by simp)
       ·rw [if_neg c17] at H
        have c17b0 : decide (x39_2 < (t603.length : Int)) = false := decide_eq_false c17
        clear c17
        have H' := Aside0.mk H
        clear H
        go_wp2
        go_roundg k2
        case measure => have := HK1.out; have := HK2.out; omega
        case rel => exact ⟨(wrap64 (x26_1 + 1)), (by first | rfl | (simp; done) | (simp [*]; done)), H', ⟨by have := HK1.out; have := HK2.out; omega⟩, ⟨Kd.R_up (Kd.R_mono HO_602000.out (fun _ hk => trivial))⟩, ⟨Kd.R_up HO_602001.out⟩, ⟨Kd.R_up HO_602002.out⟩, ⟨kU BK601.out⟩, ⟨bU HB.out⟩⟩
    ·rw [if_neg c13] at H
     have c13b0 : (t606 == 0) = false := beq_eq_false_iff_ne.mpr c13
     have c13b1 : (t606 != 0) = true := bne_iff_ne.mpr c13
     obtain rfl := Option.some.inj H
     obtain ⟨hcz36_0, hcz36_1, hcz36_2, hfz36_0, hfz36_1, hfz36_2⟩ := cz3 BK601.out
     go_wp2_with (first | ((with_reducible refine gate_callee (f := 15) rfl ?_); refine goesLq (some 32) rfl rfl Tryd.func15 #[.agg #[.slice Ao7 t592.length co7, .slice Ao9 t595.length co9, .slice Ao10 t598.length co10], .int .i64 x26_1] rfl ?_; (with_reducible refine (party_Controlled.calls k1 _ _ t592 _ _ t595 _ _ t598 x26_1 t603 t606 _ ?side1 ?side2 ?side3 ?side4 ?side5 ?side6 A12.out).mono ?_); (case side1 => exact Kd.C_up (Kd.R_reads' HO_602000.out).2.2); (case side2 => exact (Kd.R_reads' HO_602000.out).2.1); (case side3 => exact Kd.C_up (Kd.R_reads' HO_602001.out).2.2); (case side4 => exact (Kd.R_reads' HO_602001.out).2.1); (case side5 => exact Kd.C_up (Kd.R_reads' HO_602002.out).2.2); (case side6 => exact (Kd.R_reads' HO_602002.out).2.1); rintro e w37 ⟨v604, rfl, ho0, hb⟩; refine ⟨_, rfl, ?_⟩; have n0_ := aM (Kd.R_elder' (Kd.R_up HO_602000.out) (Kd.R_base ho0) hb); have n1_ := aM (Kd.R_below (Kd.R_up HO_602001.out) hb); have n2_ := aM (Kd.R_below (Kd.R_up HO_602002.out) hb); have n3_ := aM (Kd.R_lower (Kd.R_new' ho0 (Kd.R_lt (Kd.R_up HO_602000.out))) (below_size (bU HB.out))); have n4_ := aM (blk_below (kU BK601.out) hb); have n5_ := aM (below_step (bU HB.out) hb); clear HO_602000; clear HO_602001; clear HO_602002; clear BK601; clear HB; have HO_602000 := n0_; have HO_602001 := n1_; have HO_602002 := n2_; have HO605 := n3_; have BK601 := n4_; have HB := n5_; clear n0_ n1_ n2_ n3_ n4_ n5_; (try clear hb); (try clear hb2); (try clear hk); (try clear hi); (try clear ho0)))
     go_ret
     exact ⟨by first | rfl | (simp [errW_none, errW_some] <;> rfl) | (simp [*, errW_none, errW_some] <;> rfl), bU HB.out⟩
   ·rw [if_neg c11] at H
    have c11b0 : decide (x26_1 < (t592.length : Int)) = false := decide_eq_false c11
    clear c11
    replace H := bE H
    obtain ⟨t602, A380, H⟩ := H
    replace H : (some t602) = some r := H
    have A38 := Aside0.mk A380
    clear A380
    obtain rfl := Option.some.inj H
    go_wp2_with (first | ((with_reducible refine gate_callee (f := 10) rfl ?_); refine goesLq (some 72) rfl rfl Tryd.func10 #[] rfl ?_; (with_reducible refine (insolvencylaw8_awake.calls k1  t602 _ A38.out).mono ?_); rintro e w39 ⟨rfl, hb⟩; refine ⟨_, rfl, ?_⟩; have n0_ := aM (Kd.R_below (Kd.R_up HO_602000.out) hb); have n1_ := aM (Kd.R_below (Kd.R_up HO_602001.out) hb); have n2_ := aM (Kd.R_below (Kd.R_up HO_602002.out) hb); have n3_ := aM (blk_below (kU BK601.out) hb); have n4_ := aM (below_step (bU HB.out) hb); clear HO_602000; clear HO_602001; clear HO_602002; clear BK601; clear HB; have HO_602000 := n0_; have HO_602001 := n1_; have HO_602002 := n2_; have BK601 := n3_; have HB := n4_; clear n0_ n1_ n2_ n3_ n4_; (try clear hb); (try clear hb2); (try clear hk); (try clear hi)))
    go_ret
    exact ⟨by first | rfl | (simp [errW_none, errW_some] <;> rfl) | (simp [*, errW_none, errW_some] <;> rfl), bU HB.out⟩

end Go.Proofs.YtjeamaahhpbbkaaDoor.PAll
