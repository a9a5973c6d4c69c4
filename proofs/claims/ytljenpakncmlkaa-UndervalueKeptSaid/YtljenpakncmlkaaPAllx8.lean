-- PRINTED by a session's own changed print
import Derived.Test.YtljenpakncmlkaaPAllx0
import Derived.Test.YtljenpakncmlkaaPAllx7
import Derived.Test.YtljenpakncmlkaaTracerTraceW
namespace Go.Proofs.Ytljenpakncmlkaa.PAll
open Go.RowKit Go.Proofs.YtljenpakncmlkaaW.PrintWords Go.Proofs.YtljenpakncmlkaaW.PrintLast Go.Proofs.YtljenpakncmlkaaW.PrintMore
attribute [local go_sem] max2_int min2_int max_two min_two max_three min_three max_four min_four   -- for this text's walks alone
set_option linter.unusedVariables false
set_option linter.unusedSimpArgs false

/-! ### insolvencylaw27_same: function 9 -/
mutual
def insolvencylaw27_same.j0 : Nat → List Int → List Int → Bool → Option (Bool)
  | 0, _, _, _ => none
  | k + 1, x7, x10, x44 => if x44 = true then (some false) else (insolvencylaw27_same.l0 k x7 x10 0)
def insolvencylaw27_same.l0 : Nat → List Int → List Int → Int → Option (Bool)
  | 0, _, _, _ => none
  | k + 1, x7, x10, x13 => if x13 < (x7.length : Int) then (if 0 ≤ x13 then (if x13 < (x10.length : Int) then (if (rd x7 x13) = (rd x10 x13) then (insolvencylaw27_same.l0 k x7 x10 (wrap64 (x13 + 1))) else (some false)) else (none)) else (none)) else (some true)
end
def insolvencylaw27_same.f (k : Nat) (l0 : List (S36)) (l1 : List Int) (a2 : Int) : Option (Bool) := (undervalue_Trace.f k l0 l1 a2).bind fun bt171 => ((insolvencyref25_Trace.f k l0 l1 a2).bind fun bt176 => (if (bt171.1.length : Int) = (bt176.1.length : Int) then (if bt171.2.1 = bt176.2.1 then (insolvencylaw27_same.j0 k bt171.1 bt176.1 (bt171.2.2 != bt176.2.2)) else (insolvencylaw27_same.j0 k bt171.1 bt176.1 true)) else (insolvencylaw27_same.j0 k bt171.1 bt176.1 true)))
theorem insolvencylaw27_same.mono_l : ∀ k, (∀ y0 y1 y2, LeO (insolvencylaw27_same.j0 k y0 y1 y2) (insolvencylaw27_same.j0 (k + 1) y0 y1 y2)) ∧ (∀ y0 y1 y2, LeO (insolvencylaw27_same.l0 k y0 y1 y2) (insolvencylaw27_same.l0 (k + 1) y0 y1 y2))
  | 0 => ⟨fun _ _ _ r h => by simp [insolvencylaw27_same.j0] at h, fun _ _ _ r h => by simp [insolvencylaw27_same.l0] at h⟩
  | k + 1 => by
    obtain ⟨ih0, ih1⟩ := insolvencylaw27_same.mono_l k
    refine ⟨?_, ?_⟩
    · intro y0 y1 y2
      unfold insolvencylaw27_same.j0
      repeat' first
      | (with_reducible exact ih0 _ _ _)
      | (with_reducible exact ih1 _ _ _)
      | (with_reducible exact insolvencyref25_Trace.mono _ _ _ _)
      | (with_reducible exact undervalue_Trace.mono _ _ _ _)
      | (with_reducible exact LeO.refl _)
      | (with_reducible exact LeO.none _)
      | (with_reducible refine LeO.ite ?_ ?_)
      | (with_reducible refine LeO.bind ?_ (fun _ => ?_))
      | exact ih0 _ _ _
      | exact ih1 _ _ _
      | exact insolvencyref25_Trace.mono _ _ _ _
      | exact undervalue_Trace.mono _ _ _ _
      | exact LeO.none _
      | refine LeO.ite ?_ ?_
      | refine LeO.bind ?_ (fun _ => ?_)
    · intro y0 y1 y2
      unfold insolvencylaw27_same.l0
      repeat' first
      | (with_reducible exact ih0 _ _ _)
      | (with_reducible exact ih1 _ _ _)
      | (with_reducible exact insolvencyref25_Trace.mono _ _ _ _)
      | (with_reducible exact undervalue_Trace.mono _ _ _ _)
      | (with_reducible exact LeO.refl _)
      | (with_reducible exact LeO.none _)
      | (with_reducible refine LeO.ite ?_ ?_)
      | (with_reducible refine LeO.bind ?_ (fun _ => ?_))
      | exact ih0 _ _ _
      | exact ih1 _ _ _
      | exact insolvencyref25_Trace.mono _ _ _ _
      | exact undervalue_Trace.mono _ _ _ _
      | exact LeO.none _
      | refine LeO.ite ?_ ?_
      | refine LeO.bind ?_ (fun _ => ?_)
theorem insolvencylaw27_same.mono : ∀ a0 a1 a2 k, LeO (insolvencylaw27_same.f k a0 a1 a2) (insolvencylaw27_same.f (k + 1) a0 a1 a2) := by
  intro a0 a1 a2 k
  obtain ⟨ih0, ih1⟩ := insolvencylaw27_same.mono_l k
  unfold insolvencylaw27_same.f
  repeat' first
      | (with_reducible exact ih0 _ _ _)
      | (with_reducible exact ih1 _ _ _)
      | (with_reducible exact insolvencyref25_Trace.mono _ _ _ _)
      | (with_reducible exact undervalue_Trace.mono _ _ _ _)
      | (with_reducible exact LeO.refl _)
      | (with_reducible exact LeO.none _)
      | (with_reducible refine LeO.ite ?_ ?_)
      | (with_reducible refine LeO.bind ?_ (fun _ => ?_))
      | exact ih0 _ _ _
      | exact ih1 _ _ _
      | exact insolvencyref25_Trace.mono _ _ _ _
      | exact undervalue_Trace.mono _ _ _ _
      | exact LeO.none _
      | refine LeO.ite ?_ ?_
      | refine LeO.bind ?_ (fun _ => ?_)
set_option maxHeartbeats 8000000 in
set_option maxRecDepth 100000 in
theorem insolvencylaw27_same.calls (k : Nat) (A0 : Option Addr) (c0 : Nat) (l0 : List (S36)) (A1 : Option Addr) (c1 : Nat) (l1 : List Int) (a2 : Int) (r : Bool) (w : World) (hr0 : Kd.C k36 w A0 l0.length l0) (hc0 : l0.length ≤ c0) (hr1 : Kd.C (Kd.int .i64) w A1 l1.length l1) (hc1 : l1.length ≤ c1) (h : insolvencylaw27_same.f k l0 l1 a2 = some r) :
    Calls Try.prog 9 #[.slice A0 l0.length c0, .slice A1 l1.length c1, .int .i64 a2] w fun e w' => e = .returned (.bool r) ∧ Below w.heap.size w w' := by
  have HR0 := Aside0.mk hr0
  have HC0 := Aside0.mk hc0
  clear hr0 hc0
  have HR1 := Aside0.mk hr1
  have HC1 := Aside0.mk hc1
  clear hr1 hc1
  have HB := Aside0.mk (Below.refl w.heap.size w)
  have H : ((undervalue_Trace.f k l0 l1 a2).bind fun bt171 => ((insolvencyref25_Trace.f k l0 l1 a2).bind fun bt176 => (if (bt171.1.length : Int) = (bt176.1.length : Int) then (if bt171.2.1 = bt176.2.1 then (insolvencylaw27_same.j0 k bt171.1 bt176.1 (bt171.2.2 != bt176.2.2)) else (insolvencylaw27_same.j0 k bt171.1 bt176.1 true)) else (insolvencylaw27_same.j0 k bt171.1 bt176.1 true)))) = some r := h
  clear h
  replace H := Option.bind_eq_some_iff.mp H
  obtain ⟨⟨t171, t172, t173⟩, A40, H⟩ := H
  replace H : ((insolvencyref25_Trace.f k l0 l1 a2).bind fun bt176 => (if (t171.length : Int) = (bt176.1.length : Int) then (if t172 = bt176.2.1 then (insolvencylaw27_same.j0 k t171 bt176.1 (t173 != bt176.2.2)) else (insolvencylaw27_same.j0 k t171 bt176.1 true)) else (insolvencylaw27_same.j0 k t171 bt176.1 true))) = some r := H
  have A4 := Aside0.mk A40
  clear A40
  replace H := Option.bind_eq_some_iff.mp H
  obtain ⟨⟨t176, t177, t178⟩, A50, H⟩ := H
  replace H : (if (t171.length : Int) = (t176.length : Int) then (if t172 = t177 then (insolvencylaw27_same.j0 k t171 t176 (t173 != t178)) else (insolvencylaw27_same.j0 k t171 t176 true)) else (insolvencylaw27_same.j0 k t171 t176 true)) = some r := H
  have A5 := Aside0.mk A50
  clear A50
  have HC6 := Aside0.mk H
  clear H
  go_enter Try.func9, Try.ntmps9
  go_upto_region 3 with (first | (go_at_call 12; (with_reducible refine (undervalue_Trace.calls k _ _ l0 _ _ l1 a2 t171 t172 t173 _ ?side1 ?side2 ?side3 ?side4 A4.out).mono ?_); (case side1 => repeat (first | exact HR0.out | (with_reducible refine Kd.C_alloc ?_ _) | (with_reducible refine Kd.C_drewN ?_ _) | (with_reducible refine Kd.C_drew ?_))); (case side2 => exact HC0.out); (case side3 => repeat (first | exact HR1.out | (with_reducible refine Kd.C_alloc ?_ _) | (with_reducible refine Kd.C_drewN ?_ _) | (with_reducible refine Kd.C_drew ?_))); (case side4 => exact HC1.out); rintro e w7 ⟨v174, rfl, ho0, hb⟩; have n0_ := Aside0.mk (Kd.R_lower ho0 (below_size (by repeat (first | (with_reducible first | exact HB.out | apply below_alloc | apply pw_below_drewN | apply below_drew1) | exact HB.out)))); have n1_ := Aside0.mk (below_step (by repeat (first | (with_reducible first | exact HB.out | apply below_alloc | apply pw_below_drewN | apply below_drew1) | exact HB.out)) hb); clear HB; have HO175 := n0_; have HB := n1_; clear n0_ n1_; (try clear hb); (try clear hb2); (try clear hk); (try clear hi); (try clear ho0)) | (go_at_call 17; (with_reducible refine (insolvencyref25_Trace.calls k _ _ l0 _ _ l1 a2 t176 t177 t178 _ ?side1 ?side2 ?side3 ?side4 A5.out).mono ?_); (case side1 => repeat (first | exact (Kd.C_below HR0.out HB.out) | (with_reducible refine Kd.C_alloc ?_ _) | (with_reducible refine Kd.C_drewN ?_ _) | (with_reducible refine Kd.C_drew ?_))); (case side2 => exact HC0.out); (case side3 => repeat (first | exact (Kd.C_below HR1.out HB.out) | (with_reducible refine Kd.C_alloc ?_ _) | (with_reducible refine Kd.C_drewN ?_ _) | (with_reducible refine Kd.C_drew ?_))); (case side4 => exact HC1.out); rintro e w8 ⟨v179, rfl, ho0, hb⟩; have n0_ := Aside0.mk (Kd.R_elder' (by (with_reducible repeat (first | apply Kd.R_alloc | apply Kd.R_drewN | apply Kd.R_drew)); exact HO175.out) (Kd.R_base ho0) hb); have n1_ := Aside0.mk (Kd.R_lower (Kd.R_new' ho0 (Kd.R_lt (by (with_reducible repeat (first | apply Kd.R_alloc | apply Kd.R_drewN | apply Kd.R_drew)); exact HO175.out))) (below_size (by repeat (first | (with_reducible first | exact HB.out | apply below_alloc | apply pw_below_drewN | apply below_drew1) | exact HB.out)))); have n2_ := Aside0.mk (below_step (by repeat (first | (with_reducible first | exact HB.out | apply below_alloc | apply pw_below_drewN | apply below_drew1) | exact HB.out)) hb); clear HO175; clear HB; have HO175 := n0_; have HO180 := n1_; have HB := n2_; clear n0_ n1_ n2_; (try clear hb); (try clear hb2); (try clear hk); (try clear hi); (try clear ho0)))
  repeat (go_quiet (first | (go_at_call 12; (with_reducible refine (undervalue_Trace.calls k _ _ l0 _ _ l1 a2 t171 t172 t173 _ ?side1 ?side2 ?side3 ?side4 A4.out).mono ?_); (case side1 => repeat (first | exact HR0.out | (with_reducible refine Kd.C_alloc ?_ _) | (with_reducible refine Kd.C_drewN ?_ _) | (with_reducible refine Kd.C_drew ?_))); (case side2 => exact HC0.out); (case side3 => repeat (first | exact HR1.out | (with_reducible refine Kd.C_alloc ?_ _) | (with_reducible refine Kd.C_drewN ?_ _) | (with_reducible refine Kd.C_drew ?_))); (case side4 => exact HC1.out); rintro e w7 ⟨v174, rfl, ho0, hb⟩; have n0_ := Aside0.mk (Kd.R_lower ho0 (below_size (by repeat (first | (with_reducible first | exact HB.out | apply below_alloc | apply pw_below_drewN | apply below_drew1) | exact HB.out)))); have n1_ := Aside0.mk (below_step (by repeat (first | (with_reducible first | exact HB.out | apply below_alloc | apply pw_below_drewN | apply below_drew1) | exact HB.out)) hb); clear HB; have HO175 := n0_; have HB := n1_; clear n0_ n1_; (try clear hb); (try clear hb2); (try clear hk); (try clear hi); (try clear ho0)) | (go_at_call 17; (with_reducible refine (insolvencyref25_Trace.calls k _ _ l0 _ _ l1 a2 t176 t177 t178 _ ?side1 ?side2 ?side3 ?side4 A5.out).mono ?_); (case side1 => repeat (first | exact (Kd.C_below HR0.out HB.out) | (with_reducible refine Kd.C_alloc ?_ _) | (with_reducible refine Kd.C_drewN ?_ _) | (with_reducible refine Kd.C_drew ?_))); (case side2 => exact HC0.out); (case side3 => repeat (first | exact (Kd.C_below HR1.out HB.out) | (with_reducible refine Kd.C_alloc ?_ _) | (with_reducible refine Kd.C_drewN ?_ _) | (with_reducible refine Kd.C_drew ?_))); (case side4 => exact HC1.out); rintro e w8 ⟨v179, rfl, ho0, hb⟩; have n0_ := Aside0.mk (Kd.R_elder' (by (with_reducible repeat (first | apply Kd.R_alloc | apply Kd.R_drewN | apply Kd.R_drew)); exact HO175.out) (Kd.R_base ho0) hb); have n1_ := Aside0.mk (Kd.R_lower (Kd.R_new' ho0 (Kd.R_lt (by (with_reducible repeat (first | apply Kd.R_alloc | apply Kd.R_drewN | apply Kd.R_drew)); exact HO175.out))) (below_size (by repeat (first | (with_reducible first | exact HB.out | apply below_alloc | apply pw_below_drewN | apply below_drew1) | exact HB.out)))); have n2_ := Aside0.mk (below_step (by repeat (first | (with_reducible first | exact HB.out | apply below_alloc | apply pw_below_drewN | apply below_drew1) | exact HB.out)) hb); clear HO175; clear HB; have HO175 := n0_; have HO180 := n1_; have HB := n2_; clear n0_ n1_ n2_; (try clear hb); (try clear hb2); (try clear hk); (try clear hi); (try clear ho0))); go_upto_region 3 with (first | (go_at_call 12; (with_reducible refine (undervalue_Trace.calls k _ _ l0 _ _ l1 a2 t171 t172 t173 _ ?side1 ?side2 ?side3 ?side4 A4.out).mono ?_); (case side1 => repeat (first | exact HR0.out | (with_reducible refine Kd.C_alloc ?_ _) | (with_reducible refine Kd.C_drewN ?_ _) | (with_reducible refine Kd.C_drew ?_))); (case side2 => exact HC0.out); (case side3 => repeat (first | exact HR1.out | (with_reducible refine Kd.C_alloc ?_ _) | (with_reducible refine Kd.C_drewN ?_ _) | (with_reducible refine Kd.C_drew ?_))); (case side4 => exact HC1.out); rintro e w7 ⟨v174, rfl, ho0, hb⟩; have n0_ := Aside0.mk (Kd.R_lower ho0 (below_size (by repeat (first | (with_reducible first | exact HB.out | apply below_alloc | apply pw_below_drewN | apply below_drew1) | exact HB.out)))); have n1_ := Aside0.mk (below_step (by repeat (first | (with_reducible first | exact HB.out | apply below_alloc | apply pw_below_drewN | apply below_drew1) | exact HB.out)) hb); clear HB; have HO175 := n0_; have HB := n1_; clear n0_ n1_; (try clear hb); (try clear hb2); (try clear hk); (try clear hi); (try clear ho0)) | (go_at_call 17; (with_reducible refine (insolvencyref25_Trace.calls k _ _ l0 _ _ l1 a2 t176 t177 t178 _ ?side1 ?side2 ?side3 ?side4 A5.out).mono ?_); (case side1 => repeat (first | exact (Kd.C_below HR0.out HB.out) | (with_reducible refine Kd.C_alloc ?_ _) | (with_reducible refine Kd.C_drewN ?_ _) | (with_reducible refine Kd.C_drew ?_))); (case side2 => exact HC0.out); (case side3 => repeat (first | exact (Kd.C_below HR1.out HB.out) | (with_reducible refine Kd.C_alloc ?_ _) | (with_reducible refine Kd.C_drewN ?_ _) | (with_reducible refine Kd.C_drew ?_))); (case side4 => exact HC1.out); rintro e w8 ⟨v179, rfl, ho0, hb⟩; have n0_ := Aside0.mk (Kd.R_elder' (by (with_reducible repeat (first | apply Kd.R_alloc | apply Kd.R_drewN | apply Kd.R_drew)); exact HO175.out) (Kd.R_base ho0) hb); have n1_ := Aside0.mk (Kd.R_lower (Kd.R_new' ho0 (Kd.R_lt (by (with_reducible repeat (first | apply Kd.R_alloc | apply Kd.R_drewN | apply Kd.R_drew)); exact HO175.out))) (below_size (by repeat (first | (with_reducible first | exact HB.out | apply below_alloc | apply pw_below_drewN | apply below_drew1) | exact HB.out)))); have n2_ := Aside0.mk (below_step (by repeat (first | (with_reducible first | exact HB.out | apply below_alloc | apply pw_below_drewN | apply below_drew1) | exact HB.out)) hb); clear HO175; clear HB; have HO175 := n0_; have HO180 := n1_; have HB := n2_; clear n0_ n1_ n2_; (try clear hb); (try clear hb2); (try clear hk); (try clear hi); (try clear ho0))))
  (try simp only [Act.put, List.setIfInBounds_toArray, List.set_cons_zero, List.set_cons_succ])
  go_cut [44] (fun v44 wc => ∃ (kq : Nat) (x44_5 : Bool), v44 = .bool x44_5 ∧ Aside0 (insolvencylaw27_same.j0 kq t171 t176 x44_5 = some r) ∧ Aside0 (kq ≤ k) ∧ Aside0 (Kd.R (Kd.int .i64) 2 wc w.heap.size (fun k_ => some k_ ≠ (v179 : Value).ownBlock) v174 t171) ∧ Aside0 (Kd.R (Kd.int .i64) 2 wc w.heap.size (fun k_ => some k_ ≠ (v174 : Value).ownBlock) v179 t176) ∧ Aside0 (Below w.heap.size w wc))
  case first =>
    have H := HC6.out
    clear HC6
    by_cases c9 : (t171.length : Int) = (t176.length : Int)
    · rw [if_pos c9] at H
      have c9b0 : ((t171.length : Int) == (t176.length : Int)) = true := beq_iff_eq.mpr c9
      have c9b1 : ((t171.length : Int) != (t176.length : Int)) = false := bne_eq_false_iff_eq.mpr c9
      have c9b2 : (t171.length == t176.length) = true := by first | simpa using c9 | (simp at c9 ⊢; omega)
      clear c9
      (first | rw [c9b0] | (simp only [i64_w, i32_w]; rw [c9b0]) | rw [c9b1] | skip)
      by_cases c10 : t172 = t177
      · rw [if_pos c10] at H
        have c10b0 : (t172 == t177) = true := beq_iff_eq.mpr c10
        have c10b1 : (t172 != t177) = false := bne_eq_false_iff_eq.mpr c10
        clear c10
        have H' := Aside0.mk H
        clear H
        obtain ⟨Ao11, co11, eo11⟩ := Kd.R_slice HO175.out
        subst eo11
        obtain ⟨Ao12, co12, eo12⟩ := Kd.R_slice HO180.out
        subst eo12
        go_wp2
        repeat (go_quiet (fail); try go_wp2)
        go_meet
        case rel => exact ⟨_, ((t173 != t178)), (by first | rfl | (simp; done) | (simp [*]; done)), H', ⟨by first | omega | exact Nat.le_refl _⟩, ⟨by (with_reducible repeat (first | apply Kd.R_alloc | apply Kd.R_drewN | apply Kd.R_drew)); exact Kd.R_mono HO175.out (fun _ hk => hk.2)⟩, ⟨by (with_reducible repeat (first | apply Kd.R_alloc | apply Kd.R_drewN | apply Kd.R_drew)); exact Kd.R_mono HO180.out (fun _ hk => hk.2)⟩, ⟨by repeat (first | (with_reducible first | exact HB.out | apply below_alloc | apply pw_below_drewN | apply below_drew1) | exact HB.out)⟩⟩
      · rw [if_neg c10] at H
        have c10b0 : (t172 == t177) = false := beq_eq_false_iff_ne.mpr c10
        have c10b1 : (t172 != t177) = true := bne_iff_ne.mpr c10
        have H' := Aside0.mk H
        clear H
        obtain ⟨Ao13, co13, eo13⟩ := Kd.R_slice HO175.out
        subst eo13
        obtain ⟨Ao14, co14, eo14⟩ := Kd.R_slice HO180.out
        subst eo14
        go_wp2
        repeat (go_quiet (fail); try go_wp2)
        go_meet
        case rel => exact ⟨_, (true), (by first | rfl | (simp; done) | (simp [*]; done)), H', ⟨by first | omega | exact Nat.le_refl _⟩, ⟨by (with_reducible repeat (first | apply Kd.R_alloc | apply Kd.R_drewN | apply Kd.R_drew)); exact Kd.R_mono HO175.out (fun _ hk => hk.2)⟩, ⟨by (with_reducible repeat (first | apply Kd.R_alloc | apply Kd.R_drewN | apply Kd.R_drew)); exact Kd.R_mono HO180.out (fun _ hk => hk.2)⟩, ⟨by repeat (first | (with_reducible first | exact HB.out | apply below_alloc | apply pw_below_drewN | apply below_drew1) | exact HB.out)⟩⟩
    · rw [if_neg c9] at H
      have c9b0 : ((t171.length : Int) == (t176.length : Int)) = false := beq_eq_false_iff_ne.mpr c9
      have c9b1 : ((t171.length : Int) != (t176.length : Int)) = true := bne_iff_ne.mpr c9
      have c9b2 : (t171.length == t176.length) = false := by first | simpa using c9 | (simp at c9 ⊢; omega)
      (first | rw [c9b0] | (simp only [i64_w, i32_w]; rw [c9b0]) | rw [c9b1] | skip)
      have H' := Aside0.mk H
      clear H
      obtain ⟨Ao15, co15, eo15⟩ := Kd.R_slice HO175.out
      subst eo15
      obtain ⟨Ao16, co16, eo16⟩ := Kd.R_slice HO180.out
      subst eo16
      go_wp2
      repeat (go_quiet (fail); try go_wp2)
      go_meet
      case rel => exact ⟨_, (true), (by first | rfl | (simp; done) | (simp [*]; done)), H', ⟨by first | omega | exact Nat.le_refl _⟩, ⟨by (with_reducible repeat (first | apply Kd.R_alloc | apply Kd.R_drewN | apply Kd.R_drew)); exact Kd.R_mono HO175.out (fun _ hk => hk.2)⟩, ⟨by (with_reducible repeat (first | apply Kd.R_alloc | apply Kd.R_drewN | apply Kd.R_drew)); exact Kd.R_mono HO180.out (fun _ hk => hk.2)⟩, ⟨by repeat (first | (with_reducible first | exact HB.out | apply below_alloc | apply pw_below_drewN | apply below_drew1) | exact HB.out)⟩⟩
  case rest =>
    clear HC6
    try clear c1
    try clear p2
    try clear c9
    try clear c9b0
    try clear c9b1
    try clear c9b2
    try clear c10
    try clear c10b0
    try clear c10b1
    obtain ⟨kq, x44_5, rfl, HA, HJ5, HO_7, HO_10, HB⟩ := hcut
    cases kq with
    | zero => exact absurd HA.out (by simp [insolvencylaw27_same.j0])
    | succ kj5 =>
      have H := HA.out
      clear HA
      simp only [insolvencylaw27_same.j0] at H
      by_cases c17 : x44_5 = true
      · subst c17
        have H1 : (some false) = some r := by rw [if_pos rfl] at H; exact H
        clear H
        have H := H1
        clear H1
        obtain rfl := Option.some.inj H
        go_wp2
        repeat (go_quiet (fail); try go_wp2)
        go_ret
        exact ⟨by first | rfl | (simp [errW_none, errW_some] <;> rfl) | (simp [*, errW_none, errW_some] <;> rfl), by repeat (first | (with_reducible first | exact HB.out | apply below_alloc | apply pw_below_drewN | apply below_drew1) | exact HB.out)⟩
      · replace c17 := Bool.eq_false_iff.mpr c17
        subst c17
        have H1 : (insolvencylaw27_same.l0 kj5 t171 t176 0) = some r := by rw [if_neg (show ¬ (false = true) by decide)] at H; exact H
        clear H
        have H := H1
        clear H1
        have H' := Aside0.mk H
        clear H
        go_wp2
        repeat (go_quiet (fail); try go_wp2)
        go_loopg [13] kj5 (fun kq v13 w' => ∃ (x13_2 : Int), v13 = .int .i64 x13_2 ∧ Aside0 (insolvencylaw27_same.l0 kq t171 t176 x13_2 = some r) ∧ Aside0 (kq ≤ kj5) ∧ Aside0 (Kd.R (Kd.int .i64) 2 w' w.heap.size (fun k_ => some k_ ≠ (v179 : Value).ownBlock) v174 t171) ∧ Aside0 (Kd.R (Kd.int .i64) 2 w' w.heap.size (fun k_ => some k_ ≠ (v174 : Value).ownBlock) v179 t176) ∧ Aside0 (Below w.heap.size w w'))
        case atStart => exact ⟨(0), (by first | rfl | (simp; done) | (simp [*]; done)), H', ⟨Nat.le_refl _⟩, ⟨by (with_reducible repeat (first | apply Kd.R_alloc | apply Kd.R_drewN | apply Kd.R_drew)); exact HO_7.out⟩, ⟨by (with_reducible repeat (first | apply Kd.R_alloc | apply Kd.R_drewN | apply Kd.R_drew)); exact HO_10.out⟩, ⟨by repeat (first | (with_reducible first | exact HB.out | apply below_alloc | apply pw_below_drewN | apply below_drew1) | exact HB.out)⟩⟩
        case round =>
          clear H'
          try clear c1
          try clear p2
          try clear c9
          try clear c9b0
          try clear c9b1
          try clear c9b2
          try clear c10
          try clear c10b0
          try clear c10b1
          try clear c17
          try clear p2
          obtain ⟨x13_2, rfl, HA, HK2, HO_7, HO_10, HB⟩ := hrel
          cases gk with
          | zero => exact absurd HA.out (by simp [insolvencylaw27_same.l0])
          | succ k2 =>
            have H := HA.out
            clear HA
            simp only [insolvencylaw27_same.l0] at H
            by_cases c18 : x13_2 < (t171.length : Int)
            · rw [if_pos c18] at H
              have c18b0 : decide (x13_2 < (t171.length : Int)) = true := decide_eq_true c18
              clear c18
              by_cases c19 : 0 ≤ x13_2
              · rw [if_pos c19] at H
                have c19b0 : decide (0 ≤ x13_2) = true := decide_eq_true c19
                clear c19
                by_cases c20 : x13_2 < (t176.length : Int)
                · rw [if_pos c20] at H
                  have c20b0 : decide (x13_2 < (t176.length : Int)) = true := decide_eq_true c20
                  clear c20
                  by_cases c21 : (rd t171 x13_2) = (rd t176 x13_2)
                  · rw [if_pos c21] at H
                    have c21b0 : ((rd t171 x13_2) == (rd t176 x13_2)) = true := beq_iff_eq.mpr c21
                    have c21b1 : ((rd t171 x13_2) != (rd t176 x13_2)) = false := bne_eq_false_iff_eq.mpr c21
                    clear c21
                    have H' := Aside0.mk H
                    clear H
                    obtain ⟨Ao22, co22, eo22⟩ := Kd.R_slice HO_7.out
                    subst eo22
                    have p181 : 0 ≤ (x13_2 : Int) := of_decide_eq_true (by first | (with_reducible assumption) | assumption)
                    have q181 : x13_2 < (t171.length : Int) := of_decide_eq_true (by first | (with_reducible assumption) | assumption)
                    obtain ⟨ad181, e181, hx181_0⟩ := Kd.at_int (Kd.R_reads' HO_7.out).2.2 x13_2 p181 q181
                    cases e181
                    replace p181 := eq_true p181
                    replace q181 := eq_true q181
                    obtain ⟨Ao23, co23, eo23⟩ := Kd.R_slice HO_10.out
                    subst eo23
                    have p182 : 0 ≤ (x13_2 : Int) := of_decide_eq_true (by first | (with_reducible assumption) | assumption)
                    have q182 : x13_2 < (t176.length : Int) := of_decide_eq_true (by first | (with_reducible assumption) | assumption)
                    obtain ⟨ad182, e182, hx182_0⟩ := Kd.at_int (Kd.R_reads' HO_10.out).2.2 x13_2 p182 q182
                    cases e182
                    replace p182 := eq_true p182
                    replace q182 := eq_true q182
                    go_wp2
                    repeat (go_quiet (fail); try go_wp2)
                    go_roundg k2
                    case measure => have := HJ5.out; have := HK2.out; omega
                    case rel => exact ⟨(wrap64 (x13_2 + 1)), (by first | rfl | (simp; done) | (simp [*]; done)), H', ⟨by have := HJ5.out; have := HK2.out; omega⟩, ⟨by (with_reducible repeat (first | apply Kd.R_alloc | apply Kd.R_drewN | apply Kd.R_drew)); exact HO_7.out⟩, ⟨by (with_reducible repeat (first | apply Kd.R_alloc | apply Kd.R_drewN | apply Kd.R_drew)); exact HO_10.out⟩, ⟨by repeat (first | (with_reducible first | exact HB.out | apply below_alloc | apply pw_below_drewN | apply below_drew1) | exact HB.out)⟩⟩
                  · rw [if_neg c21] at H
                    have c21b0 : ((rd t171 x13_2) == (rd t176 x13_2)) = false := beq_eq_false_iff_ne.mpr c21
                    have c21b1 : ((rd t171 x13_2) != (rd t176 x13_2)) = true := bne_iff_ne.mpr c21
                    obtain rfl := Option.some.inj H
                    obtain ⟨Ao24, co24, eo24⟩ := Kd.R_slice HO_7.out
                    subst eo24
                    have p181 : 0 ≤ (x13_2 : Int) := of_decide_eq_true (by first | (with_reducible assumption) | assumption)
                    have q181 : x13_2 < (t171.length : Int) := of_decide_eq_true (by first | (with_reducible assumption) | assumption)
                    obtain ⟨ad181, e181, hx181_0⟩ := Kd.at_int (Kd.R_reads' HO_7.out).2.2 x13_2 p181 q181
                    cases e181
                    replace p181 := eq_true p181
                    replace q181 := eq_true q181
                    obtain ⟨Ao25, co25, eo25⟩ := Kd.R_slice HO_10.out
                    subst eo25
                    have p182 : 0 ≤ (x13_2 : Int) := of_decide_eq_true (by first | (with_reducible assumption) | assumption)
                    have q182 : x13_2 < (t176.length : Int) := of_decide_eq_true (by first | (with_reducible assumption) | assumption)
                    obtain ⟨ad182, e182, hx182_0⟩ := Kd.at_int (Kd.R_reads' HO_10.out).2.2 x13_2 p182 q182
                    cases e182
                    replace p182 := eq_true p182
                    replace q182 := eq_true q182
                    go_wp2
                    repeat (go_quiet (fail); try go_wp2)
                    go_ret
                    exact ⟨by first | rfl | (simp [errW_none, errW_some] <;> rfl) | (simp [*, errW_none, errW_some] <;> rfl), by repeat (first | (with_reducible first | exact HB.out | apply below_alloc | apply pw_below_drewN | apply below_drew1) | exact HB.out)⟩
                · rw [if_neg c20] at H
                  exact absurd H (by simp)
              · rw [if_neg c19] at H
                exact absurd H (by simp)
            · rw [if_neg c18] at H
              have c18b0 : decide (x13_2 < (t171.length : Int)) = false := decide_eq_false c18
              clear c18
              obtain rfl := Option.some.inj H
              obtain ⟨Ao26, co26, eo26⟩ := Kd.R_slice HO_7.out
              subst eo26
              go_wp2
              repeat (go_quiet (fail); try go_wp2)
              go_ret
              exact ⟨by first | rfl | (simp [errW_none, errW_some] <;> rfl) | (simp [*, errW_none, errW_some] <;> rfl), by repeat (first | (with_reducible first | exact HB.out | apply below_alloc | apply pw_below_drewN | apply below_drew1) | exact HB.out)⟩

end Go.Proofs.Ytljenpakncmlkaa.PAll
