-- PRINTED by a session's own changed print
import Derived.Test.YtljenpakncmlkaaPAllx0
import Derived.Test.YtljenpakncmlkaaPAllx3
namespace Go.Proofs.Ytljenpakncmlkaa.PAll
open Go.RowKit Go.Proofs.YtljenpakncmlkaaW.PrintWords Go.Proofs.YtljenpakncmlkaaW.PrintLast
set_option linter.unusedVariables false
set_option linter.unusedSimpArgs false

/-! ### insolvencyref1_divide: function 41 -/
def insolvencyref1_divide.f (k : Nat) (l0 : List Int) (l1 : List Int) : Option (List Int × List Int) := (insolvencyref1_order.f k l0 l1).bind fun t162 => (if t162 < 0 then (some (([] : List Int), l0)) else (if (l1.length : Int) = 1 then (if 0 < (l1.length : Int) then ((insolvencyref1_short.f k l0 (rd l1 0)).bind fun bt164 => ((insolvencyref1_strip.f k (([bt164.2] : List Int))).bind fun t171 => (some (bt164.1, t171)))) else (none)) else (none)))
theorem insolvencyref1_divide.mono : ∀ a0 a1 k, LeO (insolvencyref1_divide.f k a0 a1) (insolvencyref1_divide.f (k + 1) a0 a1) := by
  intro a0 a1 k
  unfold insolvencyref1_divide.f
  repeat' first
      | (with_reducible exact insolvencyref1_order.mono _ _ _)
      | (with_reducible exact insolvencyref1_short.mono _ _ _)
      | (with_reducible exact insolvencyref1_strip.mono _ _)
      | (with_reducible exact LeO.refl _)
      | (with_reducible exact LeO.none _)
      | (with_reducible refine LeO.ite ?_ ?_)
      | (with_reducible refine LeO.bind ?_ (fun _ => ?_))
      | exact insolvencyref1_order.mono _ _ _
      | exact insolvencyref1_short.mono _ _ _
      | exact insolvencyref1_strip.mono _ _
      | exact LeO.none _
      | refine LeO.ite ?_ ?_
      | refine LeO.bind ?_ (fun _ => ?_)
set_option maxHeartbeats 8000000 in
set_option maxRecDepth 100000 in
theorem insolvencyref1_divide.calls (k : Nat) (P0_ : Nat → Prop) (A0 : Option Addr) (c0 : Nat) (l0 : List Int) (A1 : Option Addr) (c1 : Nat) (l1 : List Int) (r1 : List Int) (r2 : List Int) (w : World) (hs0 : Kd.V (Kd.int .u32) 74 w w.heap.size (fun k_ => P0_ k_) (.slice A0 l0.length c0) l0) (hr1 : Kd.C (Kd.int .u32) w A1 l1.length l1) (hc1 : l1.length ≤ c1) (h : insolvencyref1_divide.f k l0 l1 = some (r1, r2)) :
    Calls Try.prog 41 #[.slice A0 l0.length c0, .slice A1 l1.length c1] w fun e w' => ∃ v0_ v1_ : Value, e = .returned (.tuple #[v0_, v1_]) ∧ Kd.V (Kd.int .u32) 74 w' w.heap.size (fun k_ => (P0_ k_ ∨ w.heap.size ≤ k_)) v0_ r1 ∧ Kd.V (Kd.int .u32) 74 w' w.heap.size (fun k_ => (P0_ k_ ∨ w.heap.size ≤ k_)) v1_ r2 ∧ Below w.heap.size w w' := by
  have HO0 := Aside0.mk (show Kd.V (Kd.int .u32) 74 w w.heap.size (fun k_ => (P0_ k_ ∨ w.heap.size ≤ k_)) (.slice A0 l0.length c0) l0 from Kd.V_mono hs0 (fun k_ hk => .inl hk))
  have HR1 := Aside0.mk hr1
  have HC1 := Aside0.mk hc1
  clear hr1 hc1
  have HB := Aside0.mk (Below.refl w.heap.size w)
  have H : ((insolvencyref1_order.f k l0 l1).bind fun t162 => (if t162 < 0 then (some (([] : List Int), l0)) else (if (l1.length : Int) = 1 then (if 0 < (l1.length : Int) then ((insolvencyref1_short.f k l0 (rd l1 0)).bind fun bt164 => ((insolvencyref1_strip.f k (([bt164.2] : List Int))).bind fun t171 => (some (bt164.1, t171)))) else (none)) else (none)))) = some (r1, r2) := h
  clear h
  replace H := Option.bind_eq_some_iff.mp H
  obtain ⟨t162, A30, H⟩ := H
  replace H : (if t162 < 0 then (some (([] : List Int), l0)) else (if (l1.length : Int) = 1 then (if 0 < (l1.length : Int) then ((insolvencyref1_short.f k l0 (rd l1 0)).bind fun bt164 => ((insolvencyref1_strip.f k (([bt164.2] : List Int))).bind fun t171 => (some (bt164.1, t171)))) else (none)) else (none))) = some (r1, r2) := H
  have A3 := Aside0.mk A30
  clear A30
  by_cases c4 : t162 < 0
  · rw [if_pos c4] at H
    have c4b0 : decide (t162 < 0) = true := decide_eq_true c4
    clear c4
    simp only [Option.some.injEq, Prod.mk.injEq] at H
    obtain ⟨rfl, rfl⟩ := H
    go_enter Try.func41, Try.ntmps41
    go_wp2_with (first | ((with_reducible refine gate_callee (f := 49) rfl ?_); refine goesL_ (some 10) rfl rfl Try.func49 (by kernel_rfl) rfl #[.slice A0 l0.length c0, .slice A1 l1.length c1] rfl (by (try simp only [List.map_toArray, List.map_cons, List.map_nil]); first | done | rfl | (simp only [List.length_drop, List.length_take]; rfl)) ?_; (with_reducible refine (insolvencyref1_order.calls k _ _ l0 _ _ l1 t162 _ ?side1 ?side2 ?side3 ?side4 A3.out).mono ?_); (case side1 => repeat (first | exact (Kd.V_reads' HO0.out).2.2 | (with_reducible refine Kd.C_alloc ?_ _) | (with_reducible refine Kd.C_drewN ?_ _) | (with_reducible refine Kd.C_drew ?_))); (case side2 => exact (Kd.V_reads' HO0.out).2.1); (case side3 => repeat (first | exact HR1.out | (with_reducible refine Kd.C_alloc ?_ _) | (with_reducible refine Kd.C_drewN ?_ _) | (with_reducible refine Kd.C_drew ?_))); (case side4 => exact HC1.out); rintro e w' ⟨rfl, ⟨nd, rfl⟩⟩; refine ⟨_, rfl, ?_⟩))
    go_ret2
    exact ⟨.slice none 0 0, _, by first | rfl | (simp [errW_none, errW_some] <;> rfl) | (simp [*, errW_none, errW_some] <;> rfl), Kd.V_mono (Kd.R_V (Kd.R_nil _ _ _ w.heap.size (fun k_ => w.heap.size ≤ k_))) (fun k_ hk => .inr hk), by (with_reducible repeat (first | apply Kd.V_alloc | apply Kd.V_drewN | apply Kd.V_drew)); exact HO0.out, by repeat (first | (with_reducible first | exact HB.out | apply below_alloc | apply pw_below_drewN | apply below_drew1) | exact HB.out)⟩
  · rw [if_neg c4] at H
    have c4b0 : decide (t162 < 0) = false := decide_eq_false c4
    clear c4
    by_cases c5 : (l1.length : Int) = 1
    · rw [if_pos c5] at H
      have c5b0 : ((l1.length : Int) == 1) = true := beq_iff_eq.mpr c5
      have c5b1 : ((l1.length : Int) != 1) = false := bne_eq_false_iff_eq.mpr c5
      clear c5
      by_cases c6 : 0 < (l1.length : Int)
      · rw [if_pos c6] at H
        have c6b0 : decide (0 < (l1.length : Int)) = true := decide_eq_true c6
        have c6b1 : decide (0 < l1.length) = true := decide_eq_true (by omega)
        clear c6
        replace H := Option.bind_eq_some_iff.mp H
        obtain ⟨⟨t164, t167⟩, A70, H⟩ := H
        replace H : ((insolvencyref1_strip.f k (([t167] : List Int))).bind fun t171 => (some (t164, t171))) = some (r1, r2) := H
        have A7 := Aside0.mk A70
        clear A70
        obtain ⟨y168, hy168⟩ : ∃ y_ : List Int, y_ = (([t167] : List Int)) := ⟨_, rfl⟩
        replace H : ((insolvencyref1_strip.f k y168).bind fun t171 => (some (t164, t171))) = some (r1, r2) := by first | (rw [hy168]; with_reducible exact H) | (have H2_ := (Option.bind_some _ _).symm.trans H; rw [hy168]; with_reducible exact H2_) | (have H2_ := (Option.bind_some _ _).symm.trans H; with_reducible exact H2_) | with_reducible exact H | (rw [hy168]; exact H) | exact H
        have Ny168 := Aside0.mk hy168
        clear hy168
        replace H := Option.bind_eq_some_iff.mp H
        obtain ⟨t171, A80, H⟩ := H
        replace H : (some (t164, t171)) = some (r1, r2) := H
        have A8 := Aside0.mk A80
        clear A80
        simp only [Option.some.injEq, Prod.mk.injEq] at H
        obtain ⟨rfl, rfl⟩ := H
        go_enter Try.func41, Try.ntmps41
        go_wp2_with (first | ((with_reducible refine gate_callee (f := 49) rfl ?_); refine goesL_ (some 10) rfl rfl Try.func49 (by kernel_rfl) rfl #[.slice A0 l0.length c0, .slice A1 l1.length c1] rfl (by (try simp only [List.map_toArray, List.map_cons, List.map_nil]); first | done | rfl | (simp only [List.length_drop, List.length_take]; rfl)) ?_; (with_reducible refine (insolvencyref1_order.calls k _ _ l0 _ _ l1 t162 _ ?side1 ?side2 ?side3 ?side4 A3.out).mono ?_); (case side1 => repeat (first | exact (Kd.V_reads' HO0.out).2.2 | (with_reducible refine Kd.C_alloc ?_ _) | (with_reducible refine Kd.C_drewN ?_ _) | (with_reducible refine Kd.C_drew ?_))); (case side2 => exact (Kd.V_reads' HO0.out).2.1); (case side3 => repeat (first | exact HR1.out | (with_reducible refine Kd.C_alloc ?_ _) | (with_reducible refine Kd.C_drewN ?_ _) | (with_reducible refine Kd.C_drew ?_))); (case side4 => exact HC1.out); rintro e w' ⟨rfl, ⟨nd, rfl⟩⟩; refine ⟨_, rfl, ?_⟩; have p163 : 0 ≤ (0 : Int) := (by omega); have q163 : 0 < (l1.length : Int) := of_decide_eq_true (by first | (with_reducible assumption) | assumption); obtain ⟨ad163, e163, hx163_0⟩ := Kd.at_int HR1.out 0 p163 q163; cases e163; have qi163 : (0 < l1.length) = True := eq_true (by omega); (try rw [show ((0 : Int)).toNat = 0 from rfl] at hx163_0); (try rw [Addr.add_zero'] at hx163_0); replace p163 := eq_true p163; replace q163 := eq_true q163) | ((with_reducible refine gate_callee (f := 50) rfl ?_); refine goesL_ (some 21) rfl rfl Try.func50 (by kernel_rfl) rfl #[.slice A0 l0.length c0, .int .u32 (rd l1 0)] rfl (by (try simp only [List.map_toArray, List.map_cons, List.map_nil]); first | done | rfl | (simp only [List.length_drop, List.length_take]; rfl)) ?_; (with_reducible refine (insolvencyref1_short.calls k _ _ l0 (rd l1 0) t164 t167 _ ?side1 ?side2 A7.out).mono ?_); (case side1 => repeat (first | exact (Kd.V_reads' HO0.out).2.2 | (with_reducible refine Kd.C_alloc ?_ _) | (with_reducible refine Kd.C_drewN ?_ _) | (with_reducible refine Kd.C_drew ?_))); (case side2 => exact (Kd.V_reads' HO0.out).2.1); rintro e w9 ⟨v165, rfl, ho0, hb⟩; refine ⟨_, rfl, ?_⟩; have n0_ := Aside0.mk (Kd.V_below (by (with_reducible repeat (first | apply Kd.V_alloc | apply Kd.V_drewN | apply Kd.V_drew)); exact HO0.out) hb); have n1_ := Aside0.mk (Kd.V_lower (Kd.V_mono (ok' := fun k_ => (P0_ k_ ∨ w.heap.size ≤ k_)) ho0 (fun k_ hk_ => (.inr (Nat.le_trans (below_size (by repeat (first | (with_reducible first | exact HB.out | apply below_alloc | apply pw_below_drewN | apply below_drew1) | exact HB.out))) hk_)))) (below_size (by repeat (first | (with_reducible first | exact HB.out | apply below_alloc | apply pw_below_drewN | apply below_drew1) | exact HB.out)))); have n2_ := Aside0.mk (below_step (by repeat (first | (with_reducible first | exact HB.out | apply below_alloc | apply pw_below_drewN | apply below_drew1) | exact HB.out)) hb); clear HO0; clear HB; have HO0 := n0_; have HO166 := n1_; have HB := n2_; clear n0_ n1_ n2_; (try clear hb); (try clear hb2); (try clear hk); (try clear hi); (try clear ho0)) | ((with_reducible refine gate_dst (N := 26) rfl ?_); refine Kd.R_lit (Kd.int .u32) _ 74 ?hg (N := 26) ?hd (xs := ([t167] : List Int)) (inner := [.int .u32 t167]) (ok := fun _ => True) (okp := fun _ => True) ?hr ?hp (fun _ hk => hk) trivial (Below.refl _ _) (Nat.le_refl _) (by simp) ?_; (case hd => rfl); (case hg => rfl); (case hr => first | (go_simp; done) | (go_simp; rfl)); (case hp => exact (Reps.one (show Kd.M (Kd.int .u32) _ _ _ t167 [.int .u32 t167] from rfl) (Reps.none _ _))); intro v169 w10 ho11 hb hg_ hnew_; clear hg_ hnew_; (first | rw [← Ny168.out] at ho11 | (simp only [Int.reduceToNat] at ho11; rw [← Ny168.out] at ho11)); have n0_ := Aside0.mk (Kd.V_elder' (by (with_reducible repeat (first | apply Kd.V_alloc | apply Kd.V_drewN | apply Kd.V_drew)); exact HO0.out) (Kd.R_base ho11) hb); have n1_ := Aside0.mk (Kd.V_elder' (by (with_reducible repeat (first | apply Kd.V_alloc | apply Kd.V_drewN | apply Kd.V_drew)); exact HO166.out) (Kd.R_base ho11) hb); have n2_ := Aside0.mk (Kd.R_lower (Kd.R_newM (M := fun k_ => (w.heap.size ≤ k_)) ho11 (below_size (by repeat (first | (with_reducible first | exact HB.out | apply below_alloc | apply pw_below_drewN | apply below_drew1) | exact HB.out))) (fun k_ h_ => h_)) (below_size (by repeat (first | (with_reducible first | exact HB.out | apply below_alloc | apply pw_below_drewN | apply below_drew1) | exact HB.out)))); have n3_ := Aside0.mk (below_step (by repeat (first | (with_reducible first | exact HB.out | apply below_alloc | apply pw_below_drewN | apply below_drew1) | exact HB.out)) hb); clear HO0; clear HO166; clear HB; have HO0 := n0_; have HO166 := n1_; have HO170 := n2_; have HB := n3_; clear n0_ n1_ n2_ n3_; clear hb ho11; obtain ⟨Ao12, co12, eo12⟩ := Kd.R_slice HO170.out; subst eo12) | ((with_reducible refine gate_callee (f := 43) rfl ?_); refine goesL_ (some 27) rfl rfl Try.func43 (by kernel_rfl) rfl #[.slice Ao12 y168.length co12] rfl (by (try simp only [List.map_toArray, List.map_cons, List.map_nil]); first | done | rfl | (simp only [List.length_drop, List.length_take]; rfl)) ?_; (with_reducible refine (insolvencyref1_strip.calls k (fun k_ => some k_ = (.slice Ao12 y168.length co12 : Value).ownBlock) _ _ y168 t171 _ ?side1 A8.out).mono ?_); (case side1 => exact Kd.R_V (Kd.R_tight rfl (HO170.out))); rintro e w13 ⟨v172, rfl, ho0, hb⟩; refine ⟨_, rfl, ?_⟩; have n0_ := Aside0.mk (Kd.V_below (by (with_reducible repeat (first | apply Kd.V_alloc | apply Kd.V_drewN | apply Kd.V_drew)); exact HO0.out) hb); have n1_ := Aside0.mk (Kd.V_below (by (with_reducible repeat (first | apply Kd.V_alloc | apply Kd.V_drewN | apply Kd.V_drew)); exact HO166.out) hb); have n2_ := Aside0.mk (Kd.R_below (by (with_reducible repeat (first | apply Kd.R_alloc | apply Kd.R_drewN | apply Kd.R_drew)); exact HO170.out) hb); have n3_ := Aside0.mk (Kd.V_lower (Kd.V_mono (ok' := fun k_ => (P0_ k_ ∨ w.heap.size ≤ k_)) ho0 (fun k_ hk_ => Or.elim hk_ (fun hs_ => (.inr (((HO170.out).1 k_ hs_.symm).1))) (fun hn_ => (.inr (Nat.le_trans (below_size (by repeat (first | (with_reducible first | exact HB.out | apply below_alloc | apply pw_below_drewN | apply below_drew1) | exact HB.out))) hn_))))) (below_size (by repeat (first | (with_reducible first | exact HB.out | apply below_alloc | apply pw_below_drewN | apply below_drew1) | exact HB.out)))); have n4_ := Aside0.mk (below_step (by repeat (first | (with_reducible first | exact HB.out | apply below_alloc | apply pw_below_drewN | apply below_drew1) | exact HB.out)) hb); clear HO0; clear HO166; clear HO170; clear HB; have HO0 := n0_; have HO166 := n1_; have HO170 := n2_; have HO173 := n3_; have HB := n4_; clear n0_ n1_ n2_ n3_ n4_; (try clear hb); (try clear hb2); (try clear hk); (try clear hi); (try clear ho0)))
        go_ret2
        exact ⟨_, _, by first | rfl | (simp [errW_none, errW_some] <;> rfl) | (simp [*, errW_none, errW_some] <;> rfl), by (with_reducible repeat (first | apply Kd.V_alloc | apply Kd.V_drewN | apply Kd.V_drew)); exact Kd.V_mono HO166.out (fun _ hk => hk.1), by (with_reducible repeat (first | apply Kd.V_alloc | apply Kd.V_drewN | apply Kd.V_drew)); exact HO173.out, by repeat (first | (with_reducible first | exact HB.out | apply below_alloc | apply pw_below_drewN | apply below_drew1) | exact HB.out)⟩
      · rw [if_neg c6] at H
        exact absurd H (by simp)
    · rw [if_neg c5] at H
      exact absurd H (by simp)

/-! ### insolvencyref1_common: function 40 -/
def insolvencyref1_common.l0 : Nat → List Int → List Int → Option (List Int)
  | 0, _, _ => none
  | k + 1, x0, x1 => if (x1.length : Int) > 0 then ((insolvencyref1_divide.f k x0 x1).bind fun bt174 => (insolvencyref1_common.l0 k x1 bt174.2)) else (some x0)
def insolvencyref1_common.f (k : Nat) (l0 : List Int) (l1 : List Int) : Option (List Int) := insolvencyref1_common.l0 k l0 l1
theorem insolvencyref1_common.mono_l : ∀ k, (∀ y0 y1, LeO (insolvencyref1_common.l0 k y0 y1) (insolvencyref1_common.l0 (k + 1) y0 y1))
  | 0 => fun _ _ r h => by simp [insolvencyref1_common.l0] at h
  | k + 1 => by
    have ih0 := insolvencyref1_common.mono_l k
    · intro y0 y1
      unfold insolvencyref1_common.l0
      repeat' first
      | (with_reducible exact ih0 _ _)
      | (with_reducible exact insolvencyref1_divide.mono _ _ _)
      | (with_reducible exact LeO.refl _)
      | (with_reducible exact LeO.none _)
      | (with_reducible refine LeO.ite ?_ ?_)
      | (with_reducible refine LeO.bind ?_ (fun _ => ?_))
      | exact ih0 _ _
      | exact insolvencyref1_divide.mono _ _ _
      | exact LeO.none _
      | refine LeO.ite ?_ ?_
      | refine LeO.bind ?_ (fun _ => ?_)
theorem insolvencyref1_common.mono : ∀ a0 a1 k, LeO (insolvencyref1_common.f k a0 a1) (insolvencyref1_common.f (k + 1) a0 a1) := by
  intro a0 a1 k
  have ih0 := insolvencyref1_common.mono_l k
  unfold insolvencyref1_common.f
  repeat' first
      | (with_reducible exact ih0 _ _)
      | (with_reducible exact insolvencyref1_divide.mono _ _ _)
      | (with_reducible exact LeO.refl _)
      | (with_reducible exact LeO.none _)
      | (with_reducible refine LeO.ite ?_ ?_)
      | (with_reducible refine LeO.bind ?_ (fun _ => ?_))
      | exact ih0 _ _
      | exact insolvencyref1_divide.mono _ _ _
      | exact LeO.none _
      | refine LeO.ite ?_ ?_
      | refine LeO.bind ?_ (fun _ => ?_)
set_option maxHeartbeats 8000000 in
set_option maxRecDepth 100000 in
theorem insolvencyref1_common.calls (k : Nat) (P0_ : Nat → Prop) (A0 : Option Addr) (c0 : Nat) (l0 : List Int) (P1_ : Nat → Prop) (A1 : Option Addr) (c1 : Nat) (l1 : List Int) (r : List Int) (w : World) (hs0 : Kd.V (Kd.int .u32) 74 w w.heap.size (fun k_ => P0_ k_) (.slice A0 l0.length c0) l0) (hs1 : Kd.V (Kd.int .u32) 74 w w.heap.size (fun k_ => P1_ k_) (.slice A1 l1.length c1) l1) (h : insolvencyref1_common.f k l0 l1 = some r) :
    Calls Try.prog 40 #[.slice A0 l0.length c0, .slice A1 l1.length c1] w fun e w' => ∃ v0_ : Value, e = .returned (v0_) ∧ Kd.V (Kd.int .u32) 74 w' w.heap.size (fun k_ => ((P0_ k_ ∨ P1_ k_) ∨ w.heap.size ≤ k_)) v0_ r ∧ Below w.heap.size w w' := by
  have HO0 := Aside0.mk (show Kd.V (Kd.int .u32) 74 w w.heap.size (fun k_ => ((P0_ k_ ∨ P1_ k_) ∨ w.heap.size ≤ k_)) (.slice A0 l0.length c0) l0 from Kd.V_mono hs0 (fun k_ hk => .inl (.inl hk)))
  have HO1 := Aside0.mk (show Kd.V (Kd.int .u32) 74 w w.heap.size (fun k_ => ((P0_ k_ ∨ P1_ k_) ∨ w.heap.size ≤ k_)) (.slice A1 l1.length c1) l1 from Kd.V_mono hs1 (fun k_ hk => .inl (.inr hk)))
  have HB := Aside0.mk (Below.refl w.heap.size w)
  have H : (insolvencyref1_common.l0 k l0 l1) = some r := h
  clear h
  have H' := Aside0.mk H
  clear H
  go_enter Try.func40, Try.ntmps40
  go_wp2
  go_loopg [0, 1] k (fun kq v0 v1 w' => ∃ (x0_1 : List Int) (x1_1 : List Int), Aside0 (insolvencyref1_common.l0 kq x0_1 x1_1 = some r) ∧ Aside0 (kq ≤ k) ∧ Aside0 (Kd.V (Kd.int .u32) 74 w' w.heap.size (fun k_ => ((P0_ k_ ∨ P1_ k_) ∨ w.heap.size ≤ k_)) v0 x0_1) ∧ Aside0 (Kd.V (Kd.int .u32) 74 w' w.heap.size (fun k_ => ((P0_ k_ ∨ P1_ k_) ∨ w.heap.size ≤ k_)) v1 x1_1) ∧ Aside0 (Below w.heap.size w w'))
  case atStart => exact ⟨(l0), (l1), H', ⟨Nat.le_refl _⟩, ⟨by (with_reducible repeat (first | apply Kd.V_alloc | apply Kd.V_drewN | apply Kd.V_drew)); exact HO0.out⟩, ⟨by (with_reducible repeat (first | apply Kd.V_alloc | apply Kd.V_drewN | apply Kd.V_drew)); exact HO1.out⟩, ⟨by repeat (first | (with_reducible first | exact HB.out | apply below_alloc | apply pw_below_drewN | apply below_drew1) | exact HB.out)⟩⟩
  case round =>
    clear H'
    try clear c1
    try clear p2
    obtain ⟨x0_1, x1_1, HA, HK1, HO_0, HO_1, HB⟩ := hrel
    cases gk with
    | zero => exact absurd HA.out (by simp [insolvencyref1_common.l0])
    | succ k1 =>
      have H := HA.out
      clear HA
      simp only [insolvencyref1_common.l0] at H
      by_cases c3 : (x1_1.length : Int) > 0
      · rw [if_pos c3] at H
        have c3b0 : decide (0 < (x1_1.length : Int)) = true := decide_eq_true c3
        have c3b1 : decide (0 < x1_1.length) = true := decide_eq_true (by omega)
        clear c3
        replace H := Option.bind_eq_some_iff.mp H
        obtain ⟨⟨t174, t177⟩, A40, H⟩ := H
        replace H : (insolvencyref1_common.l0 k1 x1_1 t177) = some r := H
        have A4 := Aside0.mk A40
        clear A40
        have H' := Aside0.mk H
        clear H
        obtain ⟨Ao5, co5, eo5⟩ := Kd.V_slice HO_1.out
        subst eo5
        obtain ⟨Ao6, co6, eo6⟩ := Kd.V_slice HO_0.out
        subst eo6
        go_wp2_with (first | ((with_reducible refine gate_callee (f := 41) rfl ?_); refine goesL_ (some 13) rfl rfl Try.func41 (by kernel_rfl) rfl #[.slice Ao6 x0_1.length co6, .slice Ao5 x1_1.length co5] rfl (by (try simp only [List.map_toArray, List.map_cons, List.map_nil]); first | done | rfl | (simp only [List.length_drop, List.length_take]; rfl)) ?_; (with_reducible refine (insolvencyref1_divide.calls k1 (fun k_ => ((P0_ k_ ∨ P1_ k_) ∨ w.heap.size ≤ k_)) _ _ x0_1 _ _ x1_1 t174 t177 _ ?side1 ?side2 ?side3 A4.out).mono ?_); (case side1 => exact HO_0.out); (case side2 => repeat (first | exact (Kd.V_reads' HO_1.out).2.2 | (with_reducible refine Kd.C_alloc ?_ _) | (with_reducible refine Kd.C_drewN ?_ _) | (with_reducible refine Kd.C_drew ?_))); (case side3 => exact (Kd.V_reads' HO_1.out).2.1); rintro e w7 ⟨v175, v178, rfl, ho0, ho1, hb⟩; refine ⟨_, rfl, ?_⟩; have n0_ := Aside0.mk (Kd.V_below (by (with_reducible repeat (first | apply Kd.V_alloc | apply Kd.V_drewN | apply Kd.V_drew)); exact HO_0.out) hb); have n1_ := Aside0.mk (Kd.V_below (by (with_reducible repeat (first | apply Kd.V_alloc | apply Kd.V_drewN | apply Kd.V_drew)); exact HO_1.out) hb); have n2_ := Aside0.mk (Kd.V_lower (Kd.V_mono (ok' := fun k_ => ((P0_ k_ ∨ P1_ k_) ∨ w.heap.size ≤ k_)) ho0 (fun k_ hk_ => Or.elim hk_ (fun hs_ => hs_) (fun hn_ => (.inr (Nat.le_trans (below_size (by repeat (first | (with_reducible first | exact HB.out | apply below_alloc | apply pw_below_drewN | apply below_drew1) | exact HB.out))) hn_))))) (below_size (by repeat (first | (with_reducible first | exact HB.out | apply below_alloc | apply pw_below_drewN | apply below_drew1) | exact HB.out)))); have n3_ := Aside0.mk (Kd.V_lower (Kd.V_mono (ok' := fun k_ => ((P0_ k_ ∨ P1_ k_) ∨ w.heap.size ≤ k_)) ho1 (fun k_ hk_ => Or.elim hk_ (fun hs_ => hs_) (fun hn_ => (.inr (Nat.le_trans (below_size (by repeat (first | (with_reducible first | exact HB.out | apply below_alloc | apply pw_below_drewN | apply below_drew1) | exact HB.out))) hn_))))) (below_size (by repeat (first | (with_reducible first | exact HB.out | apply below_alloc | apply pw_below_drewN | apply below_drew1) | exact HB.out)))); have n4_ := Aside0.mk (below_step (by repeat (first | (with_reducible first | exact HB.out | apply below_alloc | apply pw_below_drewN | apply below_drew1) | exact HB.out)) hb); clear HO_0; clear HO_1; clear HB; have HO_0 := n0_; have HO_1 := n1_; have HO176 := n2_; have HO179 := n3_; have HB := n4_; clear n0_ n1_ n2_ n3_ n4_; (try clear hb); (try clear hb2); (try clear hk); (try clear hi); (try clear ho0); (try clear ho1)))
        go_roundg k1
        case measure => have := HK1.out; omega
        case rel => exact ⟨(x1_1), (t177), H', ⟨by have := HK1.out; omega⟩, ⟨by (with_reducible repeat (first | apply Kd.V_alloc | apply Kd.V_drewN | apply Kd.V_drew)); exact HO_1.out⟩, ⟨by (with_reducible repeat (first | apply Kd.V_alloc | apply Kd.V_drewN | apply Kd.V_drew)); exact HO179.out⟩, ⟨by repeat (first | (with_reducible first | exact HB.out | apply below_alloc | apply pw_below_drewN | apply below_drew1) | exact HB.out)⟩⟩
      · rw [if_neg c3] at H
        have c3b0 : decide (0 < (x1_1.length : Int)) = false := decide_eq_false c3
        have c3b1 : decide (0 < x1_1.length) = false := decide_eq_false (by omega)
        clear c3
        obtain rfl := Option.some.inj H
        obtain ⟨Ao8, co8, eo8⟩ := Kd.V_slice HO_1.out
        subst eo8
        go_wp2
        go_ret
        exact ⟨_, by first | rfl | (simp [errW_none, errW_some] <;> rfl) | (simp [*, errW_none, errW_some] <;> rfl), by (with_reducible repeat (first | apply Kd.V_alloc | apply Kd.V_drewN | apply Kd.V_drew)); exact HO_0.out, by repeat (first | (with_reducible first | exact HB.out | apply below_alloc | apply pw_below_drewN | apply below_drew1) | exact HB.out)⟩

/-! ### insolvencyref1_Normalize: function 44 -/
def insolvencyref1_Normalize.l0 : Nat → ByteArray → Int → Option (ByteArray)
  | 0, _, _ => none
  | k + 1, x0, x3 => if x3 < (x0.size : Int) then (if 0 ≤ x3 then (if (bt x0 x3) = 0 then (insolvencyref1_Normalize.l0 k x0 (wrap64 (x3 + 1))) else (if x3 ≤ (x0.size : Int) then (some (x0.extract (x3 : Int).toNat x0.size)) else (none))) else (none)) else (if 0 ≤ x3 then (if x3 ≤ (x0.size : Int) then (some (x0.extract (x3 : Int).toNat x0.size)) else (none)) else (none))
def insolvencyref1_Normalize.f (k : Nat) (a0 : ByteArray) : Option (ByteArray) := insolvencyref1_Normalize.l0 k a0 0
theorem insolvencyref1_Normalize.mono_l : ∀ k, (∀ y0 y1, LeO (insolvencyref1_Normalize.l0 k y0 y1) (insolvencyref1_Normalize.l0 (k + 1) y0 y1))
  | 0 => fun _ _ r h => by simp [insolvencyref1_Normalize.l0] at h
  | k + 1 => by
    have ih0 := insolvencyref1_Normalize.mono_l k
    · intro y0 y1
      unfold insolvencyref1_Normalize.l0
      repeat' first
      | (with_reducible exact ih0 _ _)
      | (with_reducible exact LeO.refl _)
      | (with_reducible exact LeO.none _)
      | (with_reducible refine LeO.ite ?_ ?_)
      | (with_reducible refine LeO.bind ?_ (fun _ => ?_))
      | exact ih0 _ _
      | exact LeO.none _
      | refine LeO.ite ?_ ?_
      | refine LeO.bind ?_ (fun _ => ?_)
theorem insolvencyref1_Normalize.mono : ∀ a0 k, LeO (insolvencyref1_Normalize.f k a0) (insolvencyref1_Normalize.f (k + 1) a0) := by
  intro a0 k
  have ih0 := insolvencyref1_Normalize.mono_l k
  unfold insolvencyref1_Normalize.f
  repeat' first
      | (with_reducible exact ih0 _ _)
      | (with_reducible exact LeO.refl _)
      | (with_reducible exact LeO.none _)
      | (with_reducible refine LeO.ite ?_ ?_)
      | (with_reducible refine LeO.bind ?_ (fun _ => ?_))
      | exact ih0 _ _
      | exact LeO.none _
      | refine LeO.ite ?_ ?_
      | refine LeO.bind ?_ (fun _ => ?_)
set_option maxHeartbeats 8000000 in
set_option maxRecDepth 100000 in
theorem insolvencyref1_Normalize.calls (k : Nat) (a0 : ByteArray) (r : ByteArray) (w : World) (h : insolvencyref1_Normalize.f k a0 = some r) :
    Calls Try.prog 44 #[.string a0] w fun e w' => e = .returned (.string r) ∧ Drawn0 w w' := by
  have H : (insolvencyref1_Normalize.l0 k a0 0) = some r := h
  clear h
  have H' := Aside0.mk H
  clear H
  go_enter Try.func44, Try.ntmps44
  go_wp2
  go_loopg [3] k (fun kq v3 w' => ∃ (x3_1 : Int), v3 = .int .i64 x3_1 ∧ Aside0 (insolvencyref1_Normalize.l0 kq a0 x3_1 = some r) ∧ Aside0 (kq ≤ k) ∧ Drawn0 w w')
  case atStart => exact ⟨(0), (by first | rfl | (simp; done) | (simp [*]; done)), H', ⟨Nat.le_refl _⟩, by repeat (first | exact Drawn0.refl _ | apply Drawn0.step)⟩
  case round =>
    clear H'
    obtain ⟨x3_1, rfl, HA, HK1, ⟨m1, rfl⟩⟩ := hrel
    cases gk with
    | zero => exact absurd HA.out (by simp [insolvencyref1_Normalize.l0])
    | succ k1 =>
      have H := HA.out
      clear HA
      simp only [insolvencyref1_Normalize.l0] at H
      by_cases c2 : x3_1 < (a0.size : Int)
      · rw [if_pos c2] at H
        have c2b0 : decide (x3_1 < (a0.size : Int)) = true := decide_eq_true c2
        clear c2
        by_cases c3 : 0 ≤ x3_1
        · rw [if_pos c3] at H
          have c3b0 : decide (0 ≤ x3_1) = true := decide_eq_true c3
          clear c3
          by_cases c5 : (bt a0 x3_1) = 0
          · rw [if_pos c5] at H
            have c5b0 : ((bt a0 x3_1) == 0) = true := beq_iff_eq.mpr c5
            have c5b1 : ((bt a0 x3_1) != 0) = false := bne_eq_false_iff_eq.mpr c5
            clear c5
            have H' := Aside0.mk H
            clear H
            have p4 : 0 ≤ (x3_1 : Int) := of_decide_eq_true (by first | (with_reducible assumption) | assumption)
            have q4 : x3_1 < (a0.size : Int) := of_decide_eq_true (by first | (with_reducible assumption) | assumption)
            have hx4 := bt_at a0 x3_1
            replace p4 := eq_true p4
            replace q4 := eq_true q4
            go_wp2
            go_roundg k1
            case measure => have := HK1.out; omega
            case rel => exact ⟨(wrap64 (x3_1 + 1)), (by first | rfl | (simp; done) | (simp [*]; done)), H', ⟨by have := HK1.out; omega⟩, by repeat (first | exact Drawn0.refl _ | apply Drawn0.step)⟩
          · rw [if_neg c5] at H
            have c5b0 : ((bt a0 x3_1) == 0) = false := beq_eq_false_iff_ne.mpr c5
            have c5b1 : ((bt a0 x3_1) != 0) = true := bne_iff_ne.mpr c5
            have c6b0 := eq_true (of_decide_eq_true (by first | (with_reducible assumption) | assumption) : 0 ≤ x3_1)
            by_cases c7 : x3_1 ≤ (a0.size : Int)
            · rw [if_pos c7] at H
              have c7b0 := eq_true c7
              have c7b1 : decide (x3_1 ≤ (a0.size : Int)) = true := decide_eq_true c7
              clear c7
              obtain rfl := Option.some.inj H
              have p4 : 0 ≤ (x3_1 : Int) := of_decide_eq_true (by first | (with_reducible assumption) | assumption)
              have q4 : x3_1 < (a0.size : Int) := of_decide_eq_true (by first | (with_reducible assumption) | assumption)
              have hx4 := bt_at a0 x3_1
              replace p4 := eq_true p4
              replace q4 := eq_true q4
              go_wp2
              go_ret
              exact ⟨by first | rfl | (simp; done) | (simp [*]; done), by repeat (first | exact Drawn0.refl _ | apply Drawn0.step)⟩
            · rw [if_neg c7] at H
              exact absurd H (by simp)
        · rw [if_neg c3] at H
          exact absurd H (by simp)
      · rw [if_neg c2] at H
        have c2b0 : decide (x3_1 < (a0.size : Int)) = false := decide_eq_false c2
        clear c2
        by_cases c8 : 0 ≤ x3_1
        · rw [if_pos c8] at H
          have c8b0 := eq_true c8
          have c8b1 : decide (0 ≤ x3_1) = true := decide_eq_true c8
          clear c8
          by_cases c9 : x3_1 ≤ (a0.size : Int)
          · rw [if_pos c9] at H
            have c9b0 := eq_true c9
            have c9b1 : decide (x3_1 ≤ (a0.size : Int)) = true := decide_eq_true c9
            clear c9
            obtain rfl := Option.some.inj H
            go_wp2
            go_ret
            exact ⟨by first | rfl | (simp; done) | (simp [*]; done), by repeat (first | exact Drawn0.refl _ | apply Drawn0.step)⟩
          · rw [if_neg c9] at H
            exact absurd H (by simp)
        · rw [if_neg c8] at H
          exact absurd H (by simp)

/-! ### insolvencyref1_text: function 42 -/
def insolvencyref1_text.l0 : Nat → List Int → List Int → Int → Option (ByteArray)
  | 0, _, _, _ => none
  | k + 1, x0, x3, x4 => if x4 ≥ 0 then (if 0 ≤ x4 then (if x4 < (x0.length : Int) then ((some (([((rd x0 x4) / 16777216) % 256, ((rd x0 x4) / 65536) % 256, ((rd x0 x4) / 256) % 256, (rd x0 x4) % 256] : List Int) : List Int)).bind fun y187 => (if x3.length + y187.length < 140737488355328 then (insolvencyref1_text.l0 k x0 (x3 ++ y187) (wrap64 (x4 - 1))) else (none))) else (none)) else (none)) else ((insolvencyref1_Normalize.f k (strOfNums x3)).bind fun t193 => (some t193))
def insolvencyref1_text.f (k : Nat) (l0 : List Int) : Option (ByteArray) := (insolvencyref1_strip.f k l0).bind fun t180 => (if 0 ≤ (wrap64 (4 * (t180.length : Int))) then (if (wrap64 (4 * (t180.length : Int)) : Int).toNat ≤ 281474976710656 then (insolvencyref1_text.l0 k t180 (([] : List Int)) (wrap64 ((t180.length : Int) - 1))) else (none)) else (none))
theorem insolvencyref1_text.mono_l : ∀ k, (∀ y0 y1 y2, LeO (insolvencyref1_text.l0 k y0 y1 y2) (insolvencyref1_text.l0 (k + 1) y0 y1 y2))
  | 0 => fun _ _ _ r h => by simp [insolvencyref1_text.l0] at h
  | k + 1 => by
    have ih0 := insolvencyref1_text.mono_l k
    · intro y0 y1 y2
      unfold insolvencyref1_text.l0
      repeat' first
      | (with_reducible exact ih0 _ _ _)
      | (with_reducible exact insolvencyref1_Normalize.mono _ _)
      | (with_reducible exact insolvencyref1_strip.mono _ _)
      | (with_reducible exact LeO.refl _)
      | (with_reducible exact LeO.none _)
      | (with_reducible refine LeO.ite ?_ ?_)
      | (with_reducible refine LeO.bind ?_ (fun _ => ?_))
      | exact ih0 _ _ _
      | exact insolvencyref1_Normalize.mono _ _
      | exact insolvencyref1_strip.mono _ _
      | exact LeO.none _
      | refine LeO.ite ?_ ?_
      | refine LeO.bind ?_ (fun _ => ?_)
theorem insolvencyref1_text.mono : ∀ a0 k, LeO (insolvencyref1_text.f k a0) (insolvencyref1_text.f (k + 1) a0) := by
  intro a0 k
  have ih0 := insolvencyref1_text.mono_l k
  unfold insolvencyref1_text.f
  repeat' first
      | (with_reducible exact ih0 _ _ _)
      | (with_reducible exact insolvencyref1_Normalize.mono _ _)
      | (with_reducible exact insolvencyref1_strip.mono _ _)
      | (with_reducible exact LeO.refl _)
      | (with_reducible exact LeO.none _)
      | (with_reducible refine LeO.ite ?_ ?_)
      | (with_reducible refine LeO.bind ?_ (fun _ => ?_))
      | exact ih0 _ _ _
      | exact insolvencyref1_Normalize.mono _ _
      | exact insolvencyref1_strip.mono _ _
      | exact LeO.none _
      | refine LeO.ite ?_ ?_
      | refine LeO.bind ?_ (fun _ => ?_)
set_option maxHeartbeats 8000000 in
set_option maxRecDepth 100000 in
theorem insolvencyref1_text.calls (k : Nat) (A0 : Option Addr) (c0 : Nat) (l0 : List Int) (r : ByteArray) (w : World) (hr0 : Kd.C (Kd.int .u32) w A0 l0.length l0) (hc0 : l0.length ≤ c0) (h : insolvencyref1_text.f k l0 = some r) :
    Calls Try.prog 42 #[.slice A0 l0.length c0] w fun e w' => e = .returned (.string r) ∧ Below w.heap.size w w' := by
  have HR0 := Aside0.mk hr0
  have HC0 := Aside0.mk hc0
  clear hr0 hc0
  have HB := Aside0.mk (Below.refl w.heap.size w)
  have H : ((insolvencyref1_strip.f k l0).bind fun t180 => (if 0 ≤ (wrap64 (4 * (t180.length : Int))) then (if (wrap64 (4 * (t180.length : Int)) : Int).toNat ≤ 281474976710656 then (insolvencyref1_text.l0 k t180 (([] : List Int)) (wrap64 ((t180.length : Int) - 1))) else (none)) else (none))) = some r := h
  clear h
  replace H := Option.bind_eq_some_iff.mp H
  obtain ⟨t180, A20, H⟩ := H
  replace H : (if 0 ≤ (wrap64 (4 * (t180.length : Int))) then (if (wrap64 (4 * (t180.length : Int)) : Int).toNat ≤ 281474976710656 then (insolvencyref1_text.l0 k t180 (([] : List Int)) (wrap64 ((t180.length : Int) - 1))) else (none)) else (none)) = some r := H
  have A2 := Aside0.mk A20
  clear A20
  obtain ⟨ji3, hji3⟩ : ∃ j_ : Int, (wrap64 (4 * (t180.length : Int))) = j_ := ⟨_, rfl⟩
  replace H : (if 0 ≤ (ji3) then (if (ji3 : Int).toNat ≤ 281474976710656 then (insolvencyref1_text.l0 k t180 (([] : List Int)) (wrap64 ((t180.length : Int) - 1))) else (none)) else (none)) = some r := by first | (rw [hji3] at H; exact H) | (simp only [hji3] at H ⊢; exact H)
  (try rw [hji3] at A2)
  have hji3w : (IntKind.i64.wrap (4 * (t180.length : Int))) = ji3 := (i64_w _).trans hji3
  by_cases c4 : 0 ≤ (ji3)
  · rw [if_pos c4] at H
    have c4b0 := eq_true c4
    have c4b1 : decide (0 ≤ (ji3)) = true := decide_eq_true c4
    clear c4
    by_cases c5 : (ji3 : Int).toNat ≤ 281474976710656
    · rw [if_pos c5] at H
      have c5b0 := eq_true c5
      have c5b1 : decide ((ji3 : Int).toNat ≤ 281474976710656) = true := decide_eq_true c5
      clear c5
      obtain ⟨y183, hy183⟩ : ∃ y_ : List Int, y_ = (([] : List Int)) := ⟨_, rfl⟩
      replace H : (insolvencyref1_text.l0 k t180 y183 (wrap64 ((t180.length : Int) - 1))) = some r := by first | (rw [hy183]; with_reducible exact H) | (have H2_ := (Option.bind_some _ _).symm.trans H; rw [hy183]; with_reducible exact H2_) | (have H2_ := (Option.bind_some _ _).symm.trans H; with_reducible exact H2_) | with_reducible exact H | (rw [hy183]; exact H) | exact H
      have Ny183 := Aside0.mk hy183
      clear hy183
      have H' := Aside0.mk H
      clear H
      go_enter Try.func42, Try.ntmps42
      go_wp2_with (first | ((with_reducible refine gate_callee (f := 43) rfl ?_); refine goesL_ (some 7) rfl rfl Try.func43 (by kernel_rfl) rfl #[.slice A0 l0.length c0] rfl (by (try simp only [List.map_toArray, List.map_cons, List.map_nil]); first | done | rfl | (simp only [List.length_drop, List.length_take]; rfl)) ?_; (with_reducible refine (insolvencyref1_strip.calls k (fun k_ => k_ < w.heap.size) _ _ l0 t180 _ ?side1 A2.out).mono ?_); (case side1 => exact Kd.V_mk HC0.out (Kd.F_below (Kd.C_F (Kd.heap_int .u32) HR0.out) (by repeat (first | (with_reducible first | exact HB.out | apply below_alloc | apply pw_below_drewN | apply below_drew1) | exact HB.out)))); rintro e w6 ⟨v181, rfl, ho0, hb⟩; refine ⟨_, rfl, ?_⟩; have n0_ := Aside0.mk (Kd.V_lower (Kd.V_mono (ok' := fun k_ => True) ho0 (fun k_ hk_ => trivial)) (below_size (by repeat (first | (with_reducible first | exact HB.out | apply below_alloc | apply pw_below_drewN | apply below_drew1) | exact HB.out)))); have n1_ := Aside0.mk (below_step (by repeat (first | (with_reducible first | exact HB.out | apply below_alloc | apply pw_below_drewN | apply below_drew1) | exact HB.out)) hb); clear HB; have HO182 := n0_; have HB := n1_; clear n0_ n1_; (try clear hb); (try clear hb2); (try clear hk); (try clear hi); (try clear ho0); obtain ⟨Ao7, co7, eo7⟩ := Kd.V_slice HO182.out; subst eo7) | ((with_reducible refine gate_dst (N := 11) rfl ?_); refine Kd.R_makecap (Kd.int .u8) _ 5 rfl (N := 11) rfl 87 _ _ rfl ji3 rfl rfl Try.underlying87 (.int .u8 0) 1 info5 rfl (by decide) (by omega) 0 (ok := fun _ => True) (okp := fun _ => True) rfl (fun _ hk => hk) trivial (of_decide_eq_true (by first | (with_reducible assumption) | assumption)) (Nat.le_trans (Nat.mul_le_mul_right _ (of_decide_eq_true (by first | (with_reducible assumption) | assumption) : ji3.toNat ≤ 281474976710656)) (by omega)) (Below.refl _ _) (Nat.le_refl _) ?_; intro v184 w8 ho9 hb hg_ hnew_; clear hg_ hnew_; (first | rw [← Ny183.out] at ho9 | (simp only [Int.reduceToNat] at ho9; rw [← Ny183.out] at ho9)); have n0_ := Aside0.mk (Kd.V_elder' (by (with_reducible repeat (first | apply Kd.V_alloc | apply Kd.V_drewN | apply Kd.V_drew)); exact HO182.out) (Kd.R_base ho9) hb); have n1_ := Aside0.mk (Kd.R_lower ho9 (below_size (by repeat (first | (with_reducible first | exact HB.out | apply below_alloc | apply pw_below_drewN | apply below_drew1) | exact HB.out)))); have n2_ := Aside0.mk (below_step (by repeat (first | (with_reducible first | exact HB.out | apply below_alloc | apply pw_below_drewN | apply below_drew1) | exact HB.out)) hb); clear HO182; clear HB; have HO182 := n0_; have HO185 := n1_; have HB := n2_; clear n0_ n1_ n2_; clear hb ho9))
      go_loopg [3, 4] k (fun kq v3 v4 w' => ∃ (x3_1 : List Int) (x4_1 : Int), v4 = .int .i64 x4_1 ∧ Aside0 (insolvencyref1_text.l0 kq t180 x3_1 x4_1 = some r) ∧ Aside0 (kq ≤ k) ∧ Aside0 (Kd.V (Kd.int .u32) 74 w' w.heap.size (fun k_ => some k_ ≠ (v3 : Value).ownBlock) (.slice Ao7 t180.length co7) t180) ∧ Aside0 (Kd.R (Kd.int .u8) 5 w' w.heap.size (fun _ => True) v3 x3_1) ∧ Aside0 (Below w.heap.size w w'))
      case atStart => exact ⟨(y183), (wrap64 ((t180.length : Int) - 1)), (by first | rfl | (simp; done) | (simp [*]; done)), H', ⟨Nat.le_refl _⟩, ⟨by (with_reducible repeat (first | apply Kd.V_alloc | apply Kd.V_drewN | apply Kd.V_drew)); exact Kd.V_mono HO182.out (fun _ hk => hk.2)⟩, ⟨by (with_reducible repeat (first | apply Kd.R_alloc | apply Kd.R_drewN | apply Kd.R_drew)); exact HO185.out⟩, ⟨by repeat (first | (with_reducible first | exact HB.out | apply below_alloc | apply pw_below_drewN | apply below_drew1) | exact HB.out)⟩⟩
      case round =>
        clear H'
        try clear p2
        try clear c4
        try clear c4b0
        try clear c4b1
        try clear c5
        try clear c5b0
        try clear c5b1
        try clear p6
        obtain ⟨x3_1, x4_1, rfl, HA, HK1, HO_0, HO_3, HB⟩ := hrel
        cases gk with
        | zero => exact absurd HA.out (by simp [insolvencyref1_text.l0])
        | succ k1 =>
          have H := HA.out
          clear HA
          simp only [insolvencyref1_text.l0] at H
          by_cases c10 : x4_1 ≥ 0
          · rw [if_pos c10] at H
            have c10b0 : decide (0 ≤ x4_1) = true := decide_eq_true c10
            clear c10
            by_cases c11 : 0 ≤ x4_1
            · rw [if_pos c11] at H
              have c11b0 : decide (0 ≤ x4_1) = true := decide_eq_true c11
              clear c11
              by_cases c12 : x4_1 < (t180.length : Int)
              · rw [if_pos c12] at H
                have c12b0 : decide (x4_1 < (t180.length : Int)) = true := decide_eq_true c12
                clear c12
                obtain ⟨y187, hy187⟩ : ∃ y_ : List Int, y_ = (([((rd t180 x4_1) / 16777216) % 256, ((rd t180 x4_1) / 65536) % 256, ((rd t180 x4_1) / 256) % 256, (rd t180 x4_1) % 256] : List Int)) := ⟨_, rfl⟩
                replace H : (if x3_1.length + y187.length < 140737488355328 then (insolvencyref1_text.l0 k1 t180 (x3_1 ++ y187) (wrap64 (x4_1 - 1))) else (none)) = some r := by first | (rw [hy187]; with_reducible exact H) | (have H2_ := (Option.bind_some _ _).symm.trans H; rw [hy187]; with_reducible exact H2_) | (have H2_ := (Option.bind_some _ _).symm.trans H; with_reducible exact H2_) | with_reducible exact H | (rw [hy187]; exact H) | exact H
                have Ny187 := Aside0.mk hy187
                clear hy187
                by_cases c13 : x3_1.length + y187.length < 140737488355328
                · rw [if_pos c13] at H
                  have LMc13 := Aside0.mk c13
                  clear c13
                  obtain ⟨y190, hy190⟩ : ∃ y_ : List Int, y_ = (x3_1 ++ y187) := ⟨_, rfl⟩
                  replace H : (insolvencyref1_text.l0 k1 t180 y190 (wrap64 (x4_1 - 1))) = some r := by first | (rw [hy190]; with_reducible exact H) | (have H2_ := (Option.bind_some _ _).symm.trans H; rw [hy190]; with_reducible exact H2_) | (have H2_ := (Option.bind_some _ _).symm.trans H; with_reducible exact H2_) | with_reducible exact H | (rw [hy190]; exact H) | exact H
                  have Ny190 := Aside0.mk hy190
                  clear hy190
                  have H' := Aside0.mk H
                  clear H
                  have p186 : 0 ≤ (x4_1 : Int) := of_decide_eq_true (by first | (with_reducible assumption) | assumption)
                  have q186 : x4_1 < (t180.length : Int) := of_decide_eq_true (by first | (with_reducible assumption) | assumption)
                  obtain ⟨ad186, e186, hx186_0⟩ := Kd.at_int (Kd.V_reads' HO_0.out).2.2 x4_1 p186 q186
                  cases e186
                  replace p186 := eq_true p186
                  replace q186 := eq_true q186
                  go_wp2_with (first | ((with_reducible refine gate_dst (N := 35) rfl ?_); refine Kd.R_lit (Kd.int .u8) _ 5 ?hg (N := 35) ?hd (xs := ([((rd t180 x4_1) / 16777216) % 256, ((rd t180 x4_1) / 65536) % 256, ((rd t180 x4_1) / 256) % 256, (rd t180 x4_1) % 256] : List Int)) (inner := [.int .u8 (((rd t180 x4_1) / 16777216) % 256), .int .u8 (((rd t180 x4_1) / 65536) % 256), .int .u8 (((rd t180 x4_1) / 256) % 256), .int .u8 ((rd t180 x4_1) % 256)]) (ok := fun _ => True) (okp := fun _ => True) ?hr ?hp (fun _ hk => hk) trivial (Below.refl _ _) (Nat.le_refl _) (by simp) ?_; (case hd => rfl); (case hg => rfl); (case hr => first | (go_simp; done) | (go_simp; rfl)); (case hp => exact (Reps.one (show Kd.M (Kd.int .u8) _ _ _ (((rd t180 x4_1) / 16777216) % 256) [.int .u8 (((rd t180 x4_1) / 16777216) % 256)] from rfl) (Reps.one (show Kd.M (Kd.int .u8) _ _ _ (((rd t180 x4_1) / 65536) % 256) [.int .u8 (((rd t180 x4_1) / 65536) % 256)] from rfl) (Reps.one (show Kd.M (Kd.int .u8) _ _ _ (((rd t180 x4_1) / 256) % 256) [.int .u8 (((rd t180 x4_1) / 256) % 256)] from rfl) (Reps.one (show Kd.M (Kd.int .u8) _ _ _ ((rd t180 x4_1) % 256) [.int .u8 ((rd t180 x4_1) % 256)] from rfl) (Reps.none _ _)))))); intro v188 w14 ho15 hb hg_ hnew_; clear hg_ hnew_; (first | rw [← Ny187.out] at ho15 | (simp only [Int.reduceToNat] at ho15; rw [← Ny187.out] at ho15)); have n0_ := Aside0.mk (Kd.V_elder' (by (with_reducible repeat (first | apply Kd.V_alloc | apply Kd.V_drewN | apply Kd.V_drew)); exact HO_0.out) (Kd.R_base ho15) hb); have n1_ := Aside0.mk (Kd.R_elder' (by (with_reducible repeat (first | apply Kd.R_alloc | apply Kd.R_drewN | apply Kd.R_drew)); exact HO_3.out) (Kd.R_base ho15) hb); have n2_ := Aside0.mk (Kd.R_lower (Kd.R_new' ho15 (Kd.R_lt (by (with_reducible repeat (first | apply Kd.R_alloc | apply Kd.R_drewN | apply Kd.R_drew)); exact HO_3.out))) (below_size (by repeat (first | (with_reducible first | exact HB.out | apply below_alloc | apply pw_below_drewN | apply below_drew1) | exact HB.out)))); have n3_ := Aside0.mk (below_step (by repeat (first | (with_reducible first | exact HB.out | apply below_alloc | apply pw_below_drewN | apply below_drew1) | exact HB.out)) hb); clear HO_0; clear HO_3; clear HB; have HO_0 := n0_; have HO_3 := n1_; have HO189 := n2_; have HB := n3_; clear n0_ n1_ n2_ n3_; clear hb ho15; obtain ⟨Ao17, co17, eo17⟩ := Kd.R_slice HO189.out; subst eo17) | ((with_reducible refine gate_builtin (b := .append) (xs := #[.tmp 23, .tmp 35]) rfl ?_); at_builtin; refine Kd.R_append_rows (Kd.int .u8) (w0 := w) w.heap.size rfl (.tmp 23) (.tmp 35) 87 5 (.int .u8 0) 1 rfl Try.underlying87 info5 rfl (by decide) (by omega) u3 x3_1 y187 _ _ _ (fun k_ => some k_ ≠ (.slice Ao17 y187.length co17 : Value).ownBlock) (fun _ => False) rfl rfl ?aO ?aR (fun _ _ h => h) (fun _ h => h.elim) ?aF ?aB ?aS ?aL ?_; (case aR => repeat (first | exact (Kd.R_reads' HO189.out).2.2 | (with_reducible refine Kd.C_alloc ?_ _) | (with_reducible refine Kd.C_drewN ?_ _) | (with_reducible refine Kd.C_drew ?_))); (case aB => exact (by repeat (first | (with_reducible first | exact HB.out | apply below_alloc | apply pw_below_drewN | apply below_drew1) | exact HB.out))); (case aF => exact (fun k_ hk => Kd.fresh' (Kd.R_lt (by (with_reducible repeat (first | apply Kd.R_alloc | apply Kd.R_drewN | apply Kd.R_drew)); exact HO189.out)) k_ hk)); (case aO => exact (by (with_reducible repeat (first | apply Kd.R_alloc | apply Kd.R_drewN | apply Kd.R_drew)); exact Kd.R_mono HO_3.out (fun _ hk => hk.2))); (case aS => exact (below_size (by repeat (first | (with_reducible first | exact HB.out | apply below_alloc | apply pw_below_drewN | apply below_drew1) | exact HB.out)))); (case aL => have := LMc13.out; omega); intro v191 w16 ho hb hg hat; rw [← Ny190.out] at ho; have n0_ := Aside0.mk (Kd.V_afterv (ok := (fun k_ => some k_ ≠ (.slice Ao17 y187.length co17 : Value).ownBlock)) (by (with_reducible repeat (first | apply Kd.V_alloc | apply Kd.V_drewN | apply Kd.V_drew)); exact Kd.V_mono HO_0.out (fun _ hk => ⟨hk.2, hk.1⟩)) hg hat); have n1_ := Aside0.mk (Kd.R_after (ok := (fun _ => True)) (by (with_reducible repeat (first | apply Kd.R_alloc | apply Kd.R_drewN | apply Kd.R_drew)); exact HO189.out) hg hat); have n2_ := Aside0.mk (hb); have n3_ := Aside0.mk (ho); clear HO_0; clear HO189; clear HB; clear HO_3; have HO_0 := n0_; have HO189 := n1_; have HB := n2_; have HO192 := n3_; clear n0_ n1_ n2_ n3_; clear ho hb hg hat))
                  go_roundg k1
                  case measure => have := HK1.out; omega
                  case rel => exact ⟨(y190), (wrap64 (x4_1 - 1)), (by first | rfl | (simp; done) | (simp [*]; done)), H', ⟨by have := HK1.out; omega⟩, ⟨by (with_reducible repeat (first | apply Kd.V_alloc | apply Kd.V_drewN | apply Kd.V_drew)); exact Kd.V_mono HO_0.out (fun _ hk => hk.2)⟩, ⟨by (with_reducible repeat (first | apply Kd.R_alloc | apply Kd.R_drewN | apply Kd.R_drew)); exact Kd.R_mono HO192.out (fun _ hk => trivial)⟩, ⟨by repeat (first | (with_reducible first | exact HB.out | apply below_alloc | apply pw_below_drewN | apply below_drew1) | exact HB.out)⟩⟩
                · rw [if_neg c13] at H
                  exact absurd H (by simp)
              · rw [if_neg c12] at H
                exact absurd H (by simp)
            · rw [if_neg c11] at H
              exact absurd H (by simp)
          · rw [if_neg c10] at H
            have c10b0 : decide (0 ≤ x4_1) = false := decide_eq_false c10
            clear c10
            replace H := Option.bind_eq_some_iff.mp H
            obtain ⟨t193, A180, H⟩ := H
            replace H : (some t193) = some r := H
            have A18 := Aside0.mk A180
            clear A180
            obtain rfl := Option.some.inj H
            have hcv19 := own_string (P := Try.prog) Try.underlying87 Try.underlying5 Try.underlying9 (Kd.own_of_R HO_3.out)
            go_wp2_with (first | ((with_reducible refine gate_callee (f := 44) rfl ?_); refine goesL_ (some 39) rfl rfl Try.func44 (by kernel_rfl) rfl #[.string (strOfNums x3_1)] rfl (by (try simp only [List.map_toArray, List.map_cons, List.map_nil]); first | done | rfl | (simp only [List.length_drop, List.length_take]; rfl)) ?_; (with_reducible refine (insolvencyref1_Normalize.calls k1 (strOfNums x3_1) t193 _ A18.out).mono ?_); rintro e w' ⟨rfl, ⟨nd, rfl⟩⟩; refine ⟨_, rfl, ?_⟩))
            go_ret
            exact ⟨by first | rfl | (simp [errW_none, errW_some] <;> rfl) | (simp only [← hji3]; first | rfl | (simp [errW_none, errW_some] <;> rfl)) | (simp [*, errW_none, errW_some] <;> rfl), by repeat (first | (with_reducible first | exact HB.out | apply below_alloc | apply pw_below_drewN | apply below_drew1) | exact HB.out)⟩
    · rw [if_neg c5] at H
      exact absurd H (by simp)
  · rw [if_neg c4] at H
    exact absurd H (by simp)

/-! ### insolvencyref1_reduced: function 30 -/
mutual
def insolvencyref1_reduced.j0 : Nat → Bool → List Int → List Int → List Int → Bool → Option (Bool × ByteArray × ByteArray)
  | 0, _, _, _, _, _ => none
  | k + 1, x0, x1, x2, x7, x24 => if x24 = true then ((insolvencyref1_divide.f k x1 x7).bind fun bt199 => ((insolvencyref1_divide.f k x2 x7).bind fun bt205 => (insolvencyref1_reduced.j1 k x0 bt199.1 bt205.1))) else (insolvencyref1_reduced.j1 k x0 x1 x2)
def insolvencyref1_reduced.j1 : Nat → Bool → List Int → List Int → Option (Bool × ByteArray × ByteArray)
  | 0, _, _, _ => none
  | k + 1, x0, x1, x2 => (insolvencyref1_text.f k x1).bind fun t211 => (if (x2.length : Int) > 1 then ((insolvencyref1_text.f k x2).bind fun t213 => (some (x0, t211, t213))) else (if 0 < (x2.length : Int) then (if (rd x2 0) > 1 then ((insolvencyref1_text.f k x2).bind fun t215 => (some (x0, t211, t215))) else (some (x0, t211, (⟨#[]⟩ : ByteArray)))) else (none)))
end
def insolvencyref1_reduced.f (k : Nat) (a0 : Bool) (l1 : List Int) (l2 : List Int) : Option (Bool × ByteArray × ByteArray) := if (l1.length : Int) = 0 then (some (false, (⟨#[]⟩ : ByteArray), (⟨#[]⟩ : ByteArray))) else ((insolvencyref1_common.f k l1 l2).bind fun t195 => (if (t195.length : Int) > 1 then (insolvencyref1_reduced.j0 k a0 l1 l2 t195 true) else (if 0 < (t195.length : Int) then (insolvencyref1_reduced.j0 k a0 l1 l2 t195 (decide ((rd t195 0) > 1))) else (none))))
theorem insolvencyref1_reduced.mono_l : ∀ k, (∀ y0 y1 y2 y3 y4, LeO (insolvencyref1_reduced.j0 k y0 y1 y2 y3 y4) (insolvencyref1_reduced.j0 (k + 1) y0 y1 y2 y3 y4)) ∧ (∀ y0 y1 y2, LeO (insolvencyref1_reduced.j1 k y0 y1 y2) (insolvencyref1_reduced.j1 (k + 1) y0 y1 y2))
  | 0 => ⟨fun _ _ _ _ _ r h => by simp [insolvencyref1_reduced.j0] at h, fun _ _ _ r h => by simp [insolvencyref1_reduced.j1] at h⟩
  | k + 1 => by
    obtain ⟨ih0, ih1⟩ := insolvencyref1_reduced.mono_l k
    refine ⟨?_, ?_⟩
    · intro y0 y1 y2 y3 y4
      unfold insolvencyref1_reduced.j0
      repeat' first
      | (with_reducible exact ih0 _ _ _ _ _)
      | (with_reducible exact ih1 _ _ _)
      | (with_reducible exact insolvencyref1_common.mono _ _ _)
      | (with_reducible exact insolvencyref1_divide.mono _ _ _)
      | (with_reducible exact insolvencyref1_text.mono _ _)
      | (with_reducible exact LeO.refl _)
      | (with_reducible exact LeO.none _)
      | (with_reducible refine LeO.ite ?_ ?_)
      | (with_reducible refine LeO.bind ?_ (fun _ => ?_))
      | exact ih0 _ _ _ _ _
      | exact ih1 _ _ _
      | exact insolvencyref1_common.mono _ _ _
      | exact insolvencyref1_divide.mono _ _ _
      | exact insolvencyref1_text.mono _ _
      | exact LeO.none _
      | refine LeO.ite ?_ ?_
      | refine LeO.bind ?_ (fun _ => ?_)
    · intro y0 y1 y2
      unfold insolvencyref1_reduced.j1
      repeat' first
      | (with_reducible exact ih0 _ _ _ _ _)
      | (with_reducible exact ih1 _ _ _)
      | (with_reducible exact insolvencyref1_common.mono _ _ _)
      | (with_reducible exact insolvencyref1_divide.mono _ _ _)
      | (with_reducible exact insolvencyref1_text.mono _ _)
      | (with_reducible exact LeO.refl _)
      | (with_reducible exact LeO.none _)
      | (with_reducible refine LeO.ite ?_ ?_)
      | (with_reducible refine LeO.bind ?_ (fun _ => ?_))
      | exact ih0 _ _ _ _ _
      | exact ih1 _ _ _
      | exact insolvencyref1_common.mono _ _ _
      | exact insolvencyref1_divide.mono _ _ _
      | exact insolvencyref1_text.mono _ _
      | exact LeO.none _
      | refine LeO.ite ?_ ?_
      | refine LeO.bind ?_ (fun _ => ?_)
theorem insolvencyref1_reduced.mono : ∀ a0 a1 a2 k, LeO (insolvencyref1_reduced.f k a0 a1 a2) (insolvencyref1_reduced.f (k + 1) a0 a1 a2) := by
  intro a0 a1 a2 k
  obtain ⟨ih0, ih1⟩ := insolvencyref1_reduced.mono_l k
  unfold insolvencyref1_reduced.f
  repeat' first
      | (with_reducible exact ih0 _ _ _ _ _)
      | (with_reducible exact ih1 _ _ _)
      | (with_reducible exact insolvencyref1_common.mono _ _ _)
      | (with_reducible exact insolvencyref1_divide.mono _ _ _)
      | (with_reducible exact insolvencyref1_text.mono _ _)
      | (with_reducible exact LeO.refl _)
      | (with_reducible exact LeO.none _)
      | (with_reducible refine LeO.ite ?_ ?_)
      | (with_reducible refine LeO.bind ?_ (fun _ => ?_))
      | exact ih0 _ _ _ _ _
      | exact ih1 _ _ _
      | exact insolvencyref1_common.mono _ _ _
      | exact insolvencyref1_divide.mono _ _ _
      | exact insolvencyref1_text.mono _ _
      | exact LeO.none _
      | refine LeO.ite ?_ ?_
      | refine LeO.bind ?_ (fun _ => ?_)
set_option maxHeartbeats 8000000 in
set_option maxRecDepth 100000 in
theorem insolvencyref1_reduced.calls (k : Nat) (a0 : Bool) (P1_ : Nat → Prop) (A1 : Option Addr) (c1 : Nat) (l1 : List Int) (P2_ : Nat → Prop) (A2 : Option Addr) (c2 : Nat) (l2 : List Int) (r1 : Bool) (r2 : ByteArray) (r3 : ByteArray) (w : World) (hs1 : Kd.V (Kd.int .u32) 74 w w.heap.size (fun k_ => P1_ k_) (.slice A1 l1.length c1) l1) (hs2 : Kd.V (Kd.int .u32) 74 w w.heap.size (fun k_ => P2_ k_) (.slice A2 l2.length c2) l2) (h : insolvencyref1_reduced.f k a0 l1 l2 = some (r1, r2, r3)) :
    Calls Try.prog 30 #[.bool a0, .slice A1 l1.length c1, .slice A2 l2.length c2] w fun e w' => e = .returned (.agg #[.bool r1, .string r2, .string r3]) ∧ Below w.heap.size w w' := by
  have hu54 := Try.underlying54
  have HO1 := Aside0.mk (show Kd.V (Kd.int .u32) 74 w w.heap.size (fun k_ => ((P1_ k_ ∨ P2_ k_) ∨ w.heap.size ≤ k_)) (.slice A1 l1.length c1) l1 from Kd.V_mono hs1 (fun k_ hk => .inl (.inl hk)))
  have HO2 := Aside0.mk (show Kd.V (Kd.int .u32) 74 w w.heap.size (fun k_ => ((P1_ k_ ∨ P2_ k_) ∨ w.heap.size ≤ k_)) (.slice A2 l2.length c2) l2 from Kd.V_mono hs2 (fun k_ hk => .inl (.inr hk)))
  have HB := Aside0.mk (Below.refl w.heap.size w)
  have H : (if (l1.length : Int) = 0 then (some (false, (⟨#[]⟩ : ByteArray), (⟨#[]⟩ : ByteArray))) else ((insolvencyref1_common.f k l1 l2).bind fun t195 => (if (t195.length : Int) > 1 then (insolvencyref1_reduced.j0 k a0 l1 l2 t195 true) else (if 0 < (t195.length : Int) then (insolvencyref1_reduced.j0 k a0 l1 l2 t195 (decide ((rd t195 0) > 1))) else (none))))) = some (r1, r2, r3) := h
  clear h
  by_cases c4 : (l1.length : Int) = 0
  · rw [if_pos c4] at H
    have c4b0 : ((l1.length : Int) == 0) = true := beq_iff_eq.mpr c4
    have c4b1 : ((l1.length : Int) != 0) = false := bne_eq_false_iff_eq.mpr c4
    clear c4
    simp only [Option.some.injEq, Prod.mk.injEq] at H
    obtain ⟨rfl, rfl, rfl⟩ := H
    go_enter Try.func30, Try.ntmps30
    go_wp2_with (first | ((with_reducible refine gate_dst (N := 6) rfl ?_); refine box_event ?hg (N := 6) ?hd (cs := #[.bool false, .string (⟨#[]⟩ : ByteArray), .string (⟨#[]⟩ : ByteArray)]) (t := 54) ?hr ?_; (case hd => rfl); (case hg => rfl); (case hr => first | (go_simp; done) | (go_simp; rfl)); intro gb194 hg w5 hbox hb; have n0_ := Aside0.mk (Kd.V_below (Kd.V_elderB (by (with_reducible repeat (first | apply Kd.V_alloc | apply Kd.V_drewN | apply Kd.V_drew)); exact HO1.out) gb194 (Nat.le_of_eq hg.symm)) hb); have n1_ := Aside0.mk (Kd.V_below (Kd.V_elderB (by (with_reducible repeat (first | apply Kd.V_alloc | apply Kd.V_drewN | apply Kd.V_drew)); exact HO2.out) gb194 (Nat.le_of_eq hg.symm)) hb); have n2_ := Aside0.mk (below_step (by repeat (first | (with_reducible first | exact HB.out | apply below_alloc | apply pw_below_drewN | apply below_drew1) | exact HB.out)) hb); have n3_ := Aside0.mk (hbox); have n4_ := Aside0.mk ((by rw [hg]; exact (below_size (by repeat (first | (with_reducible first | exact HB.out | apply below_alloc | apply pw_below_drewN | apply below_drew1) | exact HB.out))) : w.heap.size ≤ gb194)); have n5_ := Aside0.mk ((by rw [hg]; exact (below_size (by repeat (first | (with_reducible first | exact HB.out | apply below_alloc | apply pw_below_drewN | apply below_drew1) | exact HB.out))) : w.heap.size ≤ gb194)); clear HO1; clear HO2; clear HB; have HO1 := n0_; have HO2 := n1_; have HB := n2_; have BK194 := n3_; have GW194 := n4_; have GE194 := n5_; clear n0_ n1_ n2_ n3_ n4_ n5_; clear hb hbox hg; have hcz6_0 : w5.cell? ⟨gb194, 0, none⟩ = some (.bool false) := (blk_cell BK194.out 0).trans rfl; have hcz6_1 : w5.cell? ⟨gb194, 1, none⟩ = some (.string (⟨#[]⟩ : ByteArray)) := (blk_cell BK194.out 1).trans rfl; have hcz6_2 : w5.cell? ⟨gb194, 2, none⟩ = some (.string (⟨#[]⟩ : ByteArray)) := (blk_cell BK194.out 2).trans rfl; have hfz6_0 := blk_frozen BK194.out 0; have hfz6_1 := blk_frozen BK194.out 1; have hfz6_2 := blk_frozen BK194.out 2))
    refine bodyPost_ret (results_cell_row rfl _ _ gb194 54 #[.bool false, .string (⟨#[]⟩ : ByteArray), .string (⟨#[]⟩ : ByteArray)] (0, 0) _ rfl (by (with_reducible repeat (first | refine blk_drewN ?_ _ | refine blk_drew ?_ | refine blk_alloc ?_ _)); refine blk_put (cs := #[.bool false, .string (⟨#[]⟩ : ByteArray), .string (⟨#[]⟩ : ByteArray)]) ?_ 2 _ rfl; (with_reducible repeat (first | refine blk_drewN ?_ _ | refine blk_drew ?_ | refine blk_alloc ?_ _)); refine blk_put (cs := #[.bool false, .string (⟨#[]⟩ : ByteArray), .string (⟨#[]⟩ : ByteArray)]) ?_ 1 _ rfl; (with_reducible repeat (first | refine blk_drewN ?_ _ | refine blk_drew ?_ | refine blk_alloc ?_ _)); refine blk_put (cs := #[.bool false, .string (⟨#[]⟩ : ByteArray), .string (⟨#[]⟩ : ByteArray)]) ?_ 0 _ rfl; (with_reducible repeat (first | refine blk_drewN ?_ _ | refine blk_drew ?_ | refine blk_alloc ?_ _)); exact BK194.out) Try.underlying54 rfl (by kernel_rfl)) rfl ?_
    exact ⟨by first | rfl | (simp [errW_none, errW_some] <;> rfl) | (simp [*, errW_none, errW_some] <;> rfl), by repeat (first | (with_reducible first | exact HB.out | apply below_alloc | apply pw_below_drewN | apply below_drew1 | refine below_set ?_ GE194.out) | exact HB.out)⟩
  · rw [if_neg c4] at H
    have c4b0 : ((l1.length : Int) == 0) = false := beq_eq_false_iff_ne.mpr c4
    have c4b1 : ((l1.length : Int) != 0) = true := bne_iff_ne.mpr c4
    have c4b2 : ¬ (l1 = []) := fun h_ => c4 (by rw [h_]; rfl)
    replace H := Option.bind_eq_some_iff.mp H
    obtain ⟨t195, A70, H⟩ := H
    replace H : (if (t195.length : Int) > 1 then (insolvencyref1_reduced.j0 k a0 l1 l2 t195 true) else (if 0 < (t195.length : Int) then (insolvencyref1_reduced.j0 k a0 l1 l2 t195 (decide ((rd t195 0) > 1))) else (none))) = some (r1, r2, r3) := H
    have A7 := Aside0.mk A70
    clear A70
    have HC8 := Aside0.mk H
    clear H
    go_enter Try.func30, Try.ntmps30
    go_upto_region 4 with (first | ((with_reducible refine gate_dst (N := 6) rfl ?_); refine box_event ?hg (N := 6) ?hd (cs := #[.bool false, .string (⟨#[]⟩ : ByteArray), .string (⟨#[]⟩ : ByteArray)]) (t := 54) ?hr ?_; (case hd => rfl); (case hg => rfl); (case hr => first | (go_simp; done) | (go_simp; rfl)); intro gb194 hg w9 hbox hb; have n0_ := Aside0.mk (Kd.V_below (Kd.V_elderB (by (with_reducible repeat (first | apply Kd.V_alloc | apply Kd.V_drewN | apply Kd.V_drew)); exact HO1.out) gb194 (Nat.le_of_eq hg.symm)) hb); have n1_ := Aside0.mk (Kd.V_below (Kd.V_elderB (by (with_reducible repeat (first | apply Kd.V_alloc | apply Kd.V_drewN | apply Kd.V_drew)); exact HO2.out) gb194 (Nat.le_of_eq hg.symm)) hb); have n2_ := Aside0.mk (below_step (by repeat (first | (with_reducible first | exact HB.out | apply below_alloc | apply pw_below_drewN | apply below_drew1) | exact HB.out)) hb); have n3_ := Aside0.mk (hbox); have n4_ := Aside0.mk ((by rw [hg]; exact (below_size (by repeat (first | (with_reducible first | exact HB.out | apply below_alloc | apply pw_below_drewN | apply below_drew1) | exact HB.out))) : w.heap.size ≤ gb194)); have n5_ := Aside0.mk ((by rw [hg]; exact (below_size (by repeat (first | (with_reducible first | exact HB.out | apply below_alloc | apply pw_below_drewN | apply below_drew1) | exact HB.out))) : w.heap.size ≤ gb194)); clear HO1; clear HO2; clear HB; have HO1 := n0_; have HO2 := n1_; have HB := n2_; have BK194 := n3_; have GW194 := n4_; have GE194 := n5_; clear n0_ n1_ n2_ n3_ n4_ n5_; clear hb hbox hg) | ((with_reducible refine gate_callee (f := 40) rfl ?_); refine goesL_ (some 15) rfl rfl Try.func40 (by kernel_rfl) rfl #[.slice A1 l1.length c1, .slice A2 l2.length c2] rfl (by (try simp only [List.map_toArray, List.map_cons, List.map_nil]); first | done | rfl | (simp only [List.length_drop, List.length_take]; rfl)) ?_; (with_reducible refine (insolvencyref1_common.calls k (fun k_ => (((P1_ k_ ∨ P2_ k_) ∨ w.heap.size ≤ k_) ∧ k_ ≠ gb194)) _ _ l1 (fun k_ => (((P1_ k_ ∨ P2_ k_) ∨ w.heap.size ≤ k_) ∧ k_ ≠ gb194)) _ _ l2 t195 _ ?side1 ?side2 A7.out).mono ?_); (case side1 => exact HO1.out); (case side2 => exact HO2.out); rintro e w10 ⟨v196, rfl, ho0, hb⟩; refine ⟨_, rfl, ?_⟩; have n0_ := Aside0.mk (Kd.V_below (by (with_reducible repeat (first | apply Kd.V_alloc | apply Kd.V_drewN | apply Kd.V_drew)); exact HO1.out) hb); have n1_ := Aside0.mk (Kd.V_below (by (with_reducible repeat (first | apply Kd.V_alloc | apply Kd.V_drewN | apply Kd.V_drew)); exact HO2.out) hb); have n2_ := Aside0.mk (Kd.V_lower (Kd.V_mono (ok' := fun k_ => ((P1_ k_ ∨ P2_ k_) ∨ w.heap.size ≤ k_) ∧ k_ ≠ gb194) ho0 (fun k_ hk_ => ⟨Or.elim hk_ (fun hs_ => Or.elim hs_ (fun hs_ => hs_.1) (fun hs_ => hs_.1)) (fun hn_ => (.inr (Nat.le_trans (below_size (by repeat (first | (with_reducible first | exact HB.out | apply below_alloc | apply pw_below_drewN | apply below_drew1 | refine below_set ?_ GE194.out) | exact HB.out))) hn_))), Or.elim hk_ (fun hs_ => Or.elim hs_ (fun hs_ => hs_.2) (fun hs_ => hs_.2)) (fun hn_ => (Kd.freshB (g := gb194) (o := .cells #[.bool false, .string (⟨#[]⟩ : ByteArray), .string (⟨#[]⟩ : ByteArray)] 54 (0, 0)) (by (with_reducible repeat (first | refine blk_drewN ?_ _ | refine blk_drew ?_ | refine blk_alloc ?_ _)); exact BK194.out) k_ hn_))⟩)) (below_size (by repeat (first | (with_reducible first | exact HB.out | apply below_alloc | apply pw_below_drewN | apply below_drew1 | refine below_set ?_ GE194.out) | exact HB.out)))); have n3_ := Aside0.mk (blk_below (g := gb194) (o := .cells #[.bool false, .string (⟨#[]⟩ : ByteArray), .string (⟨#[]⟩ : ByteArray)] 54 (0, 0)) (by (with_reducible repeat (first | refine blk_drewN ?_ _ | refine blk_drew ?_ | refine blk_alloc ?_ _)); exact BK194.out) hb); have n4_ := Aside0.mk (below_step (by repeat (first | (with_reducible first | exact HB.out | apply below_alloc | apply pw_below_drewN | apply below_drew1 | refine below_set ?_ GE194.out) | exact HB.out)) hb); clear HO1; clear HO2; clear BK194; clear HB; have HO1 := n0_; have HO2 := n1_; have HO197 := n2_; have BK194 := n3_; have HB := n4_; clear n0_ n1_ n2_ n3_ n4_; (try clear hb); (try clear hb2); (try clear hk); (try clear hi); (try clear ho0)))
    (try simp only [Act.put, List.setIfInBounds_toArray, List.set_cons_zero, List.set_cons_succ])
    go_cut [24] (fun v24 wc => ∃ (kq : Nat) (x24_7 : Bool), v24 = .bool x24_7 ∧ Aside0 (insolvencyref1_reduced.j0 kq a0 l1 l2 t195 x24_7 = some (r1, r2, r3)) ∧ Aside0 (kq ≤ k) ∧ Aside0 (Kd.V (Kd.int .u32) 74 wc w.heap.size (fun k_ => ((P1_ k_ ∨ P2_ k_) ∨ w.heap.size ≤ k_) ∧ k_ ≠ gb194) (.slice A1 l1.length c1) l1) ∧ Aside0 (Kd.V (Kd.int .u32) 74 wc w.heap.size (fun k_ => ((P1_ k_ ∨ P2_ k_) ∨ w.heap.size ≤ k_) ∧ k_ ≠ gb194) (.slice A2 l2.length c2) l2) ∧ Aside0 (Kd.V (Kd.int .u32) 74 wc w.heap.size (fun k_ => ((P1_ k_ ∨ P2_ k_) ∨ w.heap.size ≤ k_) ∧ k_ ≠ gb194) v196 t195) ∧ Aside0 (wc.heap[gb194]? = some (.cells #[.bool false, .string (⟨#[]⟩ : ByteArray), .string (⟨#[]⟩ : ByteArray)] 54 (0, 0))) ∧ Aside0 (Below w.heap.size w wc))
    case first =>
      have H := HC8.out
      clear HC8
      by_cases c11 : (t195.length : Int) > 1
      · rw [if_pos c11] at H
        have c11b0 : decide (1 < (t195.length : Int)) = true := decide_eq_true c11
        have c11b1 : decide (1 < t195.length) = true := decide_eq_true (by omega)
        clear c11
        (first | rw [c11b0] | (simp only [i64_w, i32_w]; rw [c11b0]) | rw [c11b1] | skip)
        have H' := Aside0.mk H
        clear H
        obtain ⟨Ao12, co12, eo12⟩ := Kd.V_slice HO197.out
        subst eo12
        go_wp2
        go_meet
        case rel => exact ⟨_, (true), (by first | rfl | (simp; done) | (simp [*]; done)), H', ⟨by first | omega | exact Nat.le_refl _⟩, ⟨by (with_reducible repeat (first | apply Kd.V_alloc | apply Kd.V_drewN | apply Kd.V_drew)); exact HO1.out⟩, ⟨by (with_reducible repeat (first | apply Kd.V_alloc | apply Kd.V_drewN | apply Kd.V_drew)); exact HO2.out⟩, ⟨by (with_reducible repeat (first | apply Kd.V_alloc | apply Kd.V_drewN | apply Kd.V_drew)); exact HO197.out⟩, ⟨by (with_reducible repeat (first | refine blk_drewN ?_ _ | refine blk_drew ?_ | refine blk_alloc ?_ _)); exact BK194.out⟩, ⟨by repeat (first | (with_reducible first | exact HB.out | apply below_alloc | apply pw_below_drewN | apply below_drew1 | refine below_set ?_ GE194.out) | exact HB.out)⟩⟩
      · rw [if_neg c11] at H
        have c11b0 : decide (1 < (t195.length : Int)) = false := decide_eq_false c11
        have c11b1 : decide (1 < t195.length) = false := decide_eq_false (by omega)
        clear c11
        (first | rw [c11b0] | (simp only [i64_w, i32_w]; rw [c11b0]) | rw [c11b1] | skip)
        by_cases c13 : 0 < (t195.length : Int)
        · rw [if_pos c13] at H
          have c13b0 : decide (0 < (t195.length : Int)) = true := decide_eq_true c13
          have c13b1 : decide (0 < t195.length) = true := decide_eq_true (by omega)
          clear c13
          have H' := Aside0.mk H
          clear H
          obtain ⟨Ao14, co14, eo14⟩ := Kd.V_slice HO197.out
          subst eo14
          have p198 : 0 ≤ (0 : Int) := (by omega)
          have q198 : 0 < (t195.length : Int) := of_decide_eq_true (by first | (with_reducible assumption) | assumption)
          obtain ⟨ad198, e198, hx198_0⟩ := Kd.at_int (Kd.V_reads' HO197.out).2.2 0 p198 q198
          cases e198
          have qi198 : (0 < t195.length) = True := eq_true (by omega)
          (try rw [show ((0 : Int)).toNat = 0 from rfl] at hx198_0)
          (try rw [Addr.add_zero'] at hx198_0)
          replace p198 := eq_true p198
          replace q198 := eq_true q198
          go_wp2
          go_meet
          case rel => exact ⟨_, (decide ((rd t195 0) > 1)), (by first | rfl | (simp; done) | (simp [*]; done)), H', ⟨by first | omega | exact Nat.le_refl _⟩, ⟨by (with_reducible repeat (first | apply Kd.V_alloc | apply Kd.V_drewN | apply Kd.V_drew)); exact HO1.out⟩, ⟨by (with_reducible repeat (first | apply Kd.V_alloc | apply Kd.V_drewN | apply Kd.V_drew)); exact HO2.out⟩, ⟨by (with_reducible repeat (first | apply Kd.V_alloc | apply Kd.V_drewN | apply Kd.V_drew)); exact HO197.out⟩, ⟨by (with_reducible repeat (first | refine blk_drewN ?_ _ | refine blk_drew ?_ | refine blk_alloc ?_ _)); exact BK194.out⟩, ⟨by repeat (first | (with_reducible first | exact HB.out | apply below_alloc | apply pw_below_drewN | apply below_drew1 | refine below_set ?_ GE194.out) | exact HB.out)⟩⟩
        · rw [if_neg c13] at H
          exact absurd H (by simp)
    case rest =>
      clear HC8
      try clear c1
      try clear p1
      try clear q1
      try clear hx1
      try clear qi1
      try clear c2
      try clear p2
      try clear c3
      try clear c4
      try clear c4b0
      try clear c4b1
      try clear c4b2
      try clear c11
      try clear c11b0
      try clear c11b1
      try clear c13
      try clear c13b0
      try clear c13b1
      try clear hcz6_0
      try clear hcz6_1
      try clear hcz6_2
      try clear hfz6_0
      try clear hfz6_1
      try clear hfz6_2
      try clear hx198_0
      try clear p198
      try clear q198
      obtain ⟨kq, x24_7, rfl, HA, HJ7, HO_1, HO_2, HO_7, BK194, HB⟩ := hcut
      cases kq with
      | zero => exact absurd HA.out (by simp [insolvencyref1_reduced.j0])
      | succ kj7 =>
        have H := HA.out
        clear HA
        simp only [insolvencyref1_reduced.j0] at H
        have HC15 := Aside0.mk H
        clear H
        go_upto_if 24 with (fail)
        go_cut [1, 2] (fun v1 v2 wc => ∃ (kq : Nat) (x1_14 : List Int) (x2_14 : List Int), Aside0 (insolvencyref1_reduced.j1 kq a0 x1_14 x2_14 = some (r1, r2, r3)) ∧ Aside0 (kq ≤ kj7) ∧ Aside0 (Kd.V (Kd.int .u32) 74 wc w.heap.size (fun k_ => ((P1_ k_ ∨ P2_ k_) ∨ w.heap.size ≤ k_) ∧ k_ ≠ gb194) v1 x1_14) ∧ Aside0 (Kd.V (Kd.int .u32) 74 wc w.heap.size (fun k_ => ((P1_ k_ ∨ P2_ k_) ∨ w.heap.size ≤ k_) ∧ k_ ≠ gb194) v2 x2_14) ∧ Aside0 (wc.heap[gb194]? = some (.cells #[.bool false, .string (⟨#[]⟩ : ByteArray), .string (⟨#[]⟩ : ByteArray)] 54 (0, 0))) ∧ Aside0 (Below w.heap.size w wc))
        case first =>
          have H := HC15.out
          clear HC15
          by_cases c16 : x24_7 = true
          · subst c16
            have H1 : ((insolvencyref1_divide.f kj7 l1 t195).bind fun bt199 => ((insolvencyref1_divide.f kj7 l2 t195).bind fun bt205 => (insolvencyref1_reduced.j1 kj7 a0 bt199.1 bt205.1))) = some (r1, r2, r3) := by rw [if_pos rfl] at H; exact H
            clear H
            have H := H1
            clear H1
            replace H := Option.bind_eq_some_iff.mp H
            obtain ⟨⟨t199, t202⟩, A170, H⟩ := H
            replace H : ((insolvencyref1_divide.f kj7 l2 t195).bind fun bt205 => (insolvencyref1_reduced.j1 kj7 a0 t199 bt205.1)) = some (r1, r2, r3) := H
            have A17 := Aside0.mk A170
            clear A170
            replace H := Option.bind_eq_some_iff.mp H
            obtain ⟨⟨t205, t208⟩, A180, H⟩ := H
            replace H : (insolvencyref1_reduced.j1 kj7 a0 t199 t205) = some (r1, r2, r3) := H
            have A18 := Aside0.mk A180
            clear A180
            have H' := Aside0.mk H
            clear H
            obtain ⟨Ao19, co19, eo19⟩ := Kd.V_slice HO_7.out
            subst eo19
            go_wp2_with (first | ((with_reducible refine gate_callee (f := 41) rfl ?_); refine goesL_ (some 28) rfl rfl Try.func41 (by kernel_rfl) rfl #[.slice A1 l1.length c1, .slice Ao19 t195.length co19] rfl (by (try simp only [List.map_toArray, List.map_cons, List.map_nil]); first | done | rfl | (simp only [List.length_drop, List.length_take]; rfl)) ?_; (with_reducible refine (insolvencyref1_divide.calls kj7 (fun k_ => (((P1_ k_ ∨ P2_ k_) ∨ w.heap.size ≤ k_) ∧ k_ ≠ gb194)) _ _ l1 _ _ t195 t199 t202 _ ?side1 ?side2 ?side3 A17.out).mono ?_); (case side1 => exact HO_1.out); (case side2 => repeat (first | exact (Kd.V_reads' HO_7.out).2.2 | (with_reducible refine Kd.C_alloc ?_ _) | (with_reducible refine Kd.C_drewN ?_ _) | (with_reducible refine Kd.C_drew ?_))); (case side3 => exact (Kd.V_reads' HO_7.out).2.1); rintro e w20 ⟨v200, v203, rfl, ho0, ho1, hb⟩; refine ⟨_, rfl, ?_⟩; have n0_ := Aside0.mk (Kd.V_below (by (with_reducible repeat (first | apply Kd.V_alloc | apply Kd.V_drewN | apply Kd.V_drew)); exact HO_1.out) hb); have n1_ := Aside0.mk (Kd.V_below (by (with_reducible repeat (first | apply Kd.V_alloc | apply Kd.V_drewN | apply Kd.V_drew)); exact HO_2.out) hb); have n2_ := Aside0.mk (Kd.V_below (by (with_reducible repeat (first | apply Kd.V_alloc | apply Kd.V_drewN | apply Kd.V_drew)); exact HO_7.out) hb); have n3_ := Aside0.mk (Kd.V_lower (Kd.V_mono (ok' := fun k_ => ((P1_ k_ ∨ P2_ k_) ∨ w.heap.size ≤ k_) ∧ k_ ≠ gb194) ho0 (fun k_ hk_ => ⟨Or.elim hk_ (fun hs_ => hs_.1) (fun hn_ => (.inr (Nat.le_trans (below_size (by repeat (first | (with_reducible first | exact HB.out | apply below_alloc | apply pw_below_drewN | apply below_drew1 | refine below_set ?_ GE194.out) | exact HB.out))) hn_))), Or.elim hk_ (fun hs_ => hs_.2) (fun hn_ => (Kd.freshB (g := gb194) (o := .cells #[.bool false, .string (⟨#[]⟩ : ByteArray), .string (⟨#[]⟩ : ByteArray)] 54 (0, 0)) (by (with_reducible repeat (first | refine blk_drewN ?_ _ | refine blk_drew ?_ | refine blk_alloc ?_ _)); exact BK194.out) k_ hn_))⟩)) (below_size (by repeat (first | (with_reducible first | exact HB.out | apply below_alloc | apply pw_below_drewN | apply below_drew1 | refine below_set ?_ GE194.out) | exact HB.out)))); have n4_ := Aside0.mk (Kd.V_lower (Kd.V_mono (ok' := fun k_ => ((P1_ k_ ∨ P2_ k_) ∨ w.heap.size ≤ k_) ∧ k_ ≠ gb194) ho1 (fun k_ hk_ => ⟨Or.elim hk_ (fun hs_ => hs_.1) (fun hn_ => (.inr (Nat.le_trans (below_size (by repeat (first | (with_reducible first | exact HB.out | apply below_alloc | apply pw_below_drewN | apply below_drew1 | refine below_set ?_ GE194.out) | exact HB.out))) hn_))), Or.elim hk_ (fun hs_ => hs_.2) (fun hn_ => (Kd.freshB (g := gb194) (o := .cells #[.bool false, .string (⟨#[]⟩ : ByteArray), .string (⟨#[]⟩ : ByteArray)] 54 (0, 0)) (by (with_reducible repeat (first | refine blk_drewN ?_ _ | refine blk_drew ?_ | refine blk_alloc ?_ _)); exact BK194.out) k_ hn_))⟩)) (below_size (by repeat (first | (with_reducible first | exact HB.out | apply below_alloc | apply pw_below_drewN | apply below_drew1 | refine below_set ?_ GE194.out) | exact HB.out)))); have n5_ := Aside0.mk (blk_below (g := gb194) (o := .cells #[.bool false, .string (⟨#[]⟩ : ByteArray), .string (⟨#[]⟩ : ByteArray)] 54 (0, 0)) (by (with_reducible repeat (first | refine blk_drewN ?_ _ | refine blk_drew ?_ | refine blk_alloc ?_ _)); exact BK194.out) hb); have n6_ := Aside0.mk (below_step (by repeat (first | (with_reducible first | exact HB.out | apply below_alloc | apply pw_below_drewN | apply below_drew1 | refine below_set ?_ GE194.out) | exact HB.out)) hb); clear HO_1; clear HO_2; clear HO_7; clear BK194; clear HB; have HO_1 := n0_; have HO_2 := n1_; have HO_7 := n2_; have HO201 := n3_; have HO204 := n4_; have BK194 := n5_; have HB := n6_; clear n0_ n1_ n2_ n3_ n4_ n5_ n6_; (try clear hb); (try clear hb2); (try clear hk); (try clear hi); (try clear ho0); (try clear ho1)) | ((with_reducible refine gate_callee (f := 41) rfl ?_); refine goesL_ (some 34) rfl rfl Try.func41 (by kernel_rfl) rfl #[.slice A2 l2.length c2, .slice Ao19 t195.length co19] rfl (by (try simp only [List.map_toArray, List.map_cons, List.map_nil]); first | done | rfl | (simp only [List.length_drop, List.length_take]; rfl)) ?_; (with_reducible refine (insolvencyref1_divide.calls kj7 (fun k_ => (((P1_ k_ ∨ P2_ k_) ∨ w.heap.size ≤ k_) ∧ k_ ≠ gb194)) _ _ l2 _ _ t195 t205 t208 _ ?side1 ?side2 ?side3 A18.out).mono ?_); (case side1 => exact HO_2.out); (case side2 => repeat (first | exact (Kd.V_reads' HO_7.out).2.2 | (with_reducible refine Kd.C_alloc ?_ _) | (with_reducible refine Kd.C_drewN ?_ _) | (with_reducible refine Kd.C_drew ?_))); (case side3 => exact (Kd.V_reads' HO_7.out).2.1); rintro e w21 ⟨v206, v209, rfl, ho0, ho1, hb⟩; refine ⟨_, rfl, ?_⟩; have n0_ := Aside0.mk (Kd.V_below (by (with_reducible repeat (first | apply Kd.V_alloc | apply Kd.V_drewN | apply Kd.V_drew)); exact HO_1.out) hb); have n1_ := Aside0.mk (Kd.V_below (by (with_reducible repeat (first | apply Kd.V_alloc | apply Kd.V_drewN | apply Kd.V_drew)); exact HO_2.out) hb); have n2_ := Aside0.mk (Kd.V_below (by (with_reducible repeat (first | apply Kd.V_alloc | apply Kd.V_drewN | apply Kd.V_drew)); exact HO_7.out) hb); have n3_ := Aside0.mk (Kd.V_below (by (with_reducible repeat (first | apply Kd.V_alloc | apply Kd.V_drewN | apply Kd.V_drew)); exact HO201.out) hb); have n4_ := Aside0.mk (Kd.V_below (by (with_reducible repeat (first | apply Kd.V_alloc | apply Kd.V_drewN | apply Kd.V_drew)); exact HO204.out) hb); have n5_ := Aside0.mk (Kd.V_lower (Kd.V_mono (ok' := fun k_ => ((P1_ k_ ∨ P2_ k_) ∨ w.heap.size ≤ k_) ∧ k_ ≠ gb194) ho0 (fun k_ hk_ => ⟨Or.elim hk_ (fun hs_ => hs_.1) (fun hn_ => (.inr (Nat.le_trans (below_size (by repeat (first | (with_reducible first | exact HB.out | apply below_alloc | apply pw_below_drewN | apply below_drew1 | refine below_set ?_ GE194.out) | exact HB.out))) hn_))), Or.elim hk_ (fun hs_ => hs_.2) (fun hn_ => (Kd.freshB (g := gb194) (o := .cells #[.bool false, .string (⟨#[]⟩ : ByteArray), .string (⟨#[]⟩ : ByteArray)] 54 (0, 0)) (by (with_reducible repeat (first | refine blk_drewN ?_ _ | refine blk_drew ?_ | refine blk_alloc ?_ _)); exact BK194.out) k_ hn_))⟩)) (below_size (by repeat (first | (with_reducible first | exact HB.out | apply below_alloc | apply pw_below_drewN | apply below_drew1 | refine below_set ?_ GE194.out) | exact HB.out)))); have n6_ := Aside0.mk (Kd.V_lower (Kd.V_mono (ok' := fun k_ => ((P1_ k_ ∨ P2_ k_) ∨ w.heap.size ≤ k_) ∧ k_ ≠ gb194) ho1 (fun k_ hk_ => ⟨Or.elim hk_ (fun hs_ => hs_.1) (fun hn_ => (.inr (Nat.le_trans (below_size (by repeat (first | (with_reducible first | exact HB.out | apply below_alloc | apply pw_below_drewN | apply below_drew1 | refine below_set ?_ GE194.out) | exact HB.out))) hn_))), Or.elim hk_ (fun hs_ => hs_.2) (fun hn_ => (Kd.freshB (g := gb194) (o := .cells #[.bool false, .string (⟨#[]⟩ : ByteArray), .string (⟨#[]⟩ : ByteArray)] 54 (0, 0)) (by (with_reducible repeat (first | refine blk_drewN ?_ _ | refine blk_drew ?_ | refine blk_alloc ?_ _)); exact BK194.out) k_ hn_))⟩)) (below_size (by repeat (first | (with_reducible first | exact HB.out | apply below_alloc | apply pw_below_drewN | apply below_drew1 | refine below_set ?_ GE194.out) | exact HB.out)))); have n7_ := Aside0.mk (blk_below (g := gb194) (o := .cells #[.bool false, .string (⟨#[]⟩ : ByteArray), .string (⟨#[]⟩ : ByteArray)] 54 (0, 0)) (by (with_reducible repeat (first | refine blk_drewN ?_ _ | refine blk_drew ?_ | refine blk_alloc ?_ _)); exact BK194.out) hb); have n8_ := Aside0.mk (below_step (by repeat (first | (with_reducible first | exact HB.out | apply below_alloc | apply pw_below_drewN | apply below_drew1 | refine below_set ?_ GE194.out) | exact HB.out)) hb); clear HO_1; clear HO_2; clear HO_7; clear HO201; clear HO204; clear BK194; clear HB; have HO_1 := n0_; have HO_2 := n1_; have HO_7 := n2_; have HO201 := n3_; have HO204 := n4_; have HO207 := n5_; have HO210 := n6_; have BK194 := n7_; have HB := n8_; clear n0_ n1_ n2_ n3_ n4_ n5_ n6_ n7_ n8_; (try clear hb); (try clear hb2); (try clear hk); (try clear hi); (try clear ho0); (try clear ho1)))
            go_meet
            case rel => exact ⟨_, (t199), (t205), H', ⟨by have := HJ7.out; first | omega | exact Nat.le_refl _⟩, ⟨by (with_reducible repeat (first | apply Kd.V_alloc | apply Kd.V_drewN | apply Kd.V_drew)); exact HO201.out⟩, ⟨by (with_reducible repeat (first | apply Kd.V_alloc | apply Kd.V_drewN | apply Kd.V_drew)); exact HO207.out⟩, ⟨by (with_reducible repeat (first | refine blk_drewN ?_ _ | refine blk_drew ?_ | refine blk_alloc ?_ _)); exact BK194.out⟩, ⟨by repeat (first | (with_reducible first | exact HB.out | apply below_alloc | apply pw_below_drewN | apply below_drew1 | refine below_set ?_ GE194.out) | exact HB.out)⟩⟩
          · replace c16 := Bool.eq_false_iff.mpr c16
            subst c16
            have H1 : (insolvencyref1_reduced.j1 kj7 a0 l1 l2) = some (r1, r2, r3) := by rw [if_neg (show ¬ (false = true) by decide)] at H; exact H
            clear H
            have H := H1
            clear H1
            have H' := Aside0.mk H
            clear H
            go_wp2
            go_meet
            case rel => exact ⟨_, (l1), (l2), H', ⟨by have := HJ7.out; first | omega | exact Nat.le_refl _⟩, ⟨by (with_reducible repeat (first | apply Kd.V_alloc | apply Kd.V_drewN | apply Kd.V_drew)); exact HO_1.out⟩, ⟨by (with_reducible repeat (first | apply Kd.V_alloc | apply Kd.V_drewN | apply Kd.V_drew)); exact HO_2.out⟩, ⟨by (with_reducible repeat (first | refine blk_drewN ?_ _ | refine blk_drew ?_ | refine blk_alloc ?_ _)); exact BK194.out⟩, ⟨by repeat (first | (with_reducible first | exact HB.out | apply below_alloc | apply pw_below_drewN | apply below_drew1 | refine below_set ?_ GE194.out) | exact HB.out)⟩⟩
        case rest =>
          clear HC15
          try clear c1
          try clear p1
          try clear q1
          try clear hx1
          try clear qi1
          try clear c2
          try clear p2
          try clear c3
          try clear c4
          try clear c4b0
          try clear c4b1
          try clear c4b2
          try clear c11
          try clear c11b0
          try clear c11b1
          try clear c13
          try clear c13b0
          try clear c13b1
          try clear c16
          try clear p19
          try clear q19
          try clear hx19
          try clear qi19
          try clear hcz6_0
          try clear hcz6_1
          try clear hcz6_2
          try clear hfz6_0
          try clear hfz6_1
          try clear hfz6_2
          try clear hx198_0
          try clear p1
          try clear p198
          try clear p2
          try clear q1
          try clear q198
          obtain ⟨kq, x1_14, x2_14, HA, HJ14, HO_1, HO_2, BK194, HB⟩ := hcut
          cases kq with
          | zero => exact absurd HA.out (by simp [insolvencyref1_reduced.j1])
          | succ kj14 =>
            have H := HA.out
            clear HA
            simp only [insolvencyref1_reduced.j1] at H
            replace H := Option.bind_eq_some_iff.mp H
            obtain ⟨t211, A220, H⟩ := H
            replace H : (if (x2_14.length : Int) > 1 then ((insolvencyref1_text.f kj14 x2_14).bind fun t213 => (some (a0, t211, t213))) else (if 0 < (x2_14.length : Int) then (if (rd x2_14 0) > 1 then ((insolvencyref1_text.f kj14 x2_14).bind fun t215 => (some (a0, t211, t215))) else (some (a0, t211, (⟨#[]⟩ : ByteArray)))) else (none))) = some (r1, r2, r3) := H
            have A22 := Aside0.mk A220
            clear A220
            by_cases c23 : (x2_14.length : Int) > 1
            · rw [if_pos c23] at H
              have c23b0 : decide (1 < (x2_14.length : Int)) = true := decide_eq_true c23
              have c23b1 : decide (1 < x2_14.length) = true := decide_eq_true (by omega)
              clear c23
              replace H := Option.bind_eq_some_iff.mp H
              obtain ⟨t213, A240, H⟩ := H
              replace H : (some (a0, t211, t213)) = some (r1, r2, r3) := H
              have A24 := Aside0.mk A240
              clear A240
              simp only [Option.some.injEq, Prod.mk.injEq] at H
              obtain ⟨rfl, rfl, rfl⟩ := H
              obtain ⟨Ao25, co25, eo25⟩ := Kd.V_slice HO_1.out
              subst eo25
              go_wp2_with (first | ((with_reducible refine gate_callee (f := 42) rfl ?_); refine goesL_ (some 39) rfl rfl Try.func42 (by kernel_rfl) rfl #[.slice Ao25 x1_14.length co25] rfl (by (try simp only [List.map_toArray, List.map_cons, List.map_nil]); first | done | rfl | (simp only [List.length_drop, List.length_take]; rfl)) ?_; (with_reducible refine (insolvencyref1_text.calls kj14 _ _ x1_14 t211 _ ?side1 ?side2 A22.out).mono ?_); (case side1 => repeat (first | exact (Kd.V_reads' HO_1.out).2.2 | (with_reducible refine Kd.C_alloc ?_ _) | (with_reducible refine Kd.C_drewN ?_ _) | (with_reducible refine Kd.C_drew ?_))); (case side2 => exact (Kd.V_reads' HO_1.out).2.1); rintro e w26 ⟨rfl, hb⟩; refine ⟨_, rfl, ?_⟩; have n0_ := Aside0.mk (Kd.V_below (by (with_reducible repeat (first | apply Kd.V_alloc | apply Kd.V_drewN | apply Kd.V_drew)); exact HO_1.out) hb); have n1_ := Aside0.mk (Kd.V_below (by (with_reducible repeat (first | apply Kd.V_alloc | apply Kd.V_drewN | apply Kd.V_drew)); exact HO_2.out) hb); have n2_ := Aside0.mk (blk_below (g := gb194) (o := .cells #[.bool false, .string (⟨#[]⟩ : ByteArray), .string (⟨#[]⟩ : ByteArray)] 54 (0, 0)) (by (with_reducible repeat (first | refine blk_drewN ?_ _ | refine blk_drew ?_ | refine blk_alloc ?_ _)); exact BK194.out) hb); have n3_ := Aside0.mk (below_step (by repeat (first | (with_reducible first | exact HB.out | apply below_alloc | apply pw_below_drewN | apply below_drew1 | refine below_set ?_ GE194.out) | exact HB.out)) hb); clear HO_1; clear HO_2; clear BK194; clear HB; have HO_1 := n0_; have HO_2 := n1_; have BK194 := n2_; have HB := n3_; clear n0_ n1_ n2_ n3_; (try clear hb); (try clear hb2); (try clear hk); (try clear hi)) | ((with_reducible refine gate_dst (N := 8) rfl ?_); refine box_event ?hg (N := 8) ?hd (cs := #[.bool false, .string (⟨#[]⟩ : ByteArray), .string (⟨#[]⟩ : ByteArray)]) (t := 54) ?hr ?_; (case hd => rfl); (case hg => rfl); (case hr => first | (go_simp; done) | (go_simp; rfl)); intro gb212 hg w27 hbox hb; have n0_ := Aside0.mk (Kd.V_below (Kd.V_elderB (by (with_reducible repeat (first | apply Kd.V_alloc | apply Kd.V_drewN | apply Kd.V_drew)); exact HO_1.out) gb212 (Nat.le_of_eq hg.symm)) hb); have n1_ := Aside0.mk (Kd.V_below (Kd.V_elderB (by (with_reducible repeat (first | apply Kd.V_alloc | apply Kd.V_drewN | apply Kd.V_drew)); exact HO_2.out) gb212 (Nat.le_of_eq hg.symm)) hb); have n2_ := Aside0.mk (blk_below (g := gb194) (o := .cells #[.bool false, .string (⟨#[]⟩ : ByteArray), .string (⟨#[]⟩ : ByteArray)] 54 (0, 0)) (by (with_reducible repeat (first | refine blk_drewN ?_ _ | refine blk_drew ?_ | refine blk_alloc ?_ _)); exact BK194.out) hb); have n3_ := Aside0.mk (below_step (by repeat (first | (with_reducible first | exact HB.out | apply below_alloc | apply pw_below_drewN | apply below_drew1 | refine below_set ?_ GE194.out) | exact HB.out)) hb); have n4_ := Aside0.mk (hbox); have n5_ := Aside0.mk ((by rw [hg]; exact (below_size (by repeat (first | (with_reducible first | exact HB.out | apply below_alloc | apply pw_below_drewN | apply below_drew1 | refine below_set ?_ GE194.out) | exact HB.out))) : w.heap.size ≤ gb212)); have n6_ := Aside0.mk ((by rw [hg]; exact (below_size (by repeat (first | (with_reducible first | exact HB.out | apply below_alloc | apply pw_below_drewN | apply below_drew1 | refine below_set ?_ GE194.out) | exact HB.out))) : w.heap.size ≤ gb212)); have n7_ := Aside0.mk ((by rw [hg]; exact Nat.ne_of_lt (blk_lt (g := gb194) (o := .cells #[.bool false, .string (⟨#[]⟩ : ByteArray), .string (⟨#[]⟩ : ByteArray)] 54 (0, 0)) (by (with_reducible repeat (first | refine blk_drewN ?_ _ | refine blk_drew ?_ | refine blk_alloc ?_ _)); exact BK194.out)) : gb194 ≠ gb212)); have n8_ := Aside0.mk ((by rw [hg]; exact Nat.ne_of_gt (blk_lt (g := gb194) (o := .cells #[.bool false, .string (⟨#[]⟩ : ByteArray), .string (⟨#[]⟩ : ByteArray)] 54 (0, 0)) (by (with_reducible repeat (first | refine blk_drewN ?_ _ | refine blk_drew ?_ | refine blk_alloc ?_ _)); exact BK194.out)) : gb212 ≠ gb194)); clear HO_1; clear HO_2; clear BK194; clear HB; have HO_1 := n0_; have HO_2 := n1_; have BK194 := n2_; have HB := n3_; have BK212 := n4_; have GW212 := n5_; have GE212 := n6_; have NB194_212 := n7_; have NB212_194 := n8_; clear n0_ n1_ n2_ n3_ n4_ n5_ n6_ n7_ n8_; clear hb hbox hg; have hnb28 := NB212_194.out; have hnc28 := NB194_212.out; have hcz29_0 : w27.cell? ⟨gb212, 0, none⟩ = some (.bool false) := (blk_cell BK212.out 0).trans rfl; have hcz29_1 : w27.cell? ⟨gb212, 1, none⟩ = some (.string (⟨#[]⟩ : ByteArray)) := (blk_cell BK212.out 1).trans rfl; have hcz29_2 : w27.cell? ⟨gb212, 2, none⟩ = some (.string (⟨#[]⟩ : ByteArray)) := (blk_cell BK212.out 2).trans rfl; have hfz29_0 := blk_frozen BK212.out 0; have hfz29_1 := blk_frozen BK212.out 1; have hfz29_2 := blk_frozen BK212.out 2; obtain ⟨Ao30, co30, eo30⟩ := Kd.V_slice HO_2.out; subst eo30) | ((with_reducible refine gate_callee (f := 42) rfl ?_); refine goesL_ (some 51) rfl rfl Try.func42 (by kernel_rfl) rfl #[.slice Ao30 x2_14.length co30] rfl (by (try simp only [List.map_toArray, List.map_cons, List.map_nil]); first | done | rfl | (simp only [List.length_drop, List.length_take]; rfl)) ?_; (with_reducible refine (insolvencyref1_text.calls kj14 _ _ x2_14 t213 _ ?side1 ?side2 A24.out).mono ?_); (case side1 => refine (Kd.V_reads' (e := 74) (base := w.heap.size) (ok := fun k_ => ((((P1_ k_ ∨ P2_ k_) ∨ w.heap.size ≤ k_) ∧ k_ ≠ gb194) ∧ k_ ≠ gb212)) (n := x2_14.length) (c := co30) ?_).2.2; exact (by (with_reducible repeat (first | apply Kd.V_alloc | apply Kd.V_drewN | apply Kd.V_drew)); exact (Kd.V_mono (Kd.V_far (p := ⟨gb212, 2, none⟩) (Kd.V_far (p := ⟨gb212, 1, none⟩) (Kd.V_far (p := ⟨gb212, 0, none⟩) (Kd.V_mono HO_2.out (fun k_ hk => (⟨hk, hk.2⟩ : _ ∧ k_ ≠ gb212))) (fun _ hk => hk.2) (.bool a0)) (fun _ hk => hk.2) (.string t211)) (fun _ hk => hk.2) (.string (⟨#[]⟩ : ByteArray))) (fun _ h_ => h_.1)))); (case side2 => exact (Kd.V_reads' HO_2.out).2.1); rintro e w31 ⟨rfl, hb⟩; refine ⟨_, rfl, ?_⟩; have n0_ := Aside0.mk (Kd.V_below (by (with_reducible repeat (first | apply Kd.V_alloc | apply Kd.V_drewN | apply Kd.V_drew)); exact (Kd.V_mono (Kd.V_far (p := ⟨gb212, 2, none⟩) (Kd.V_far (p := ⟨gb212, 1, none⟩) (Kd.V_far (p := ⟨gb212, 0, none⟩) (Kd.V_mono HO_1.out (fun k_ hk => (⟨hk, hk.2⟩ : _ ∧ k_ ≠ gb212))) (fun _ hk => hk.2) (.bool a0)) (fun _ hk => hk.2) (.string t211)) (fun _ hk => hk.2) (.string (⟨#[]⟩ : ByteArray))) (fun _ h_ => h_.1))) hb); have n1_ := Aside0.mk (Kd.V_below (by (with_reducible repeat (first | apply Kd.V_alloc | apply Kd.V_drewN | apply Kd.V_drew)); exact (Kd.V_mono (Kd.V_far (p := ⟨gb212, 2, none⟩) (Kd.V_far (p := ⟨gb212, 1, none⟩) (Kd.V_far (p := ⟨gb212, 0, none⟩) (Kd.V_mono HO_2.out (fun k_ hk => (⟨hk, hk.2⟩ : _ ∧ k_ ≠ gb212))) (fun _ hk => hk.2) (.bool a0)) (fun _ hk => hk.2) (.string t211)) (fun _ hk => hk.2) (.string (⟨#[]⟩ : ByteArray))) (fun _ h_ => h_.1))) hb); have n2_ := Aside0.mk (blk_below (g := gb194) (o := .cells #[.bool false, .string (⟨#[]⟩ : ByteArray), .string (⟨#[]⟩ : ByteArray)] 54 (0, 0)) (by (with_reducible repeat (first | refine blk_drewN ?_ _ | refine blk_drew ?_ | refine blk_alloc ?_ _)); refine blk_far ?_ NB194_212.out _; (with_reducible repeat (first | refine blk_drewN ?_ _ | refine blk_drew ?_ | refine blk_alloc ?_ _)); refine blk_far ?_ NB194_212.out _; (with_reducible repeat (first | refine blk_drewN ?_ _ | refine blk_drew ?_ | refine blk_alloc ?_ _)); refine blk_far ?_ NB194_212.out _; (with_reducible repeat (first | refine blk_drewN ?_ _ | refine blk_drew ?_ | refine blk_alloc ?_ _)); exact BK194.out) hb); have n3_ := Aside0.mk (blk_below (g := gb212) (o := .cells #[.bool a0, .string t211, .string (⟨#[]⟩ : ByteArray)] 54 (0, 0)) (by (with_reducible repeat (first | refine blk_drewN ?_ _ | refine blk_drew ?_ | refine blk_alloc ?_ _)); refine blk_put (cs := #[.bool a0, .string t211, .string (⟨#[]⟩ : ByteArray)]) ?_ 2 _ rfl; (with_reducible repeat (first | refine blk_drewN ?_ _ | refine blk_drew ?_ | refine blk_alloc ?_ _)); refine blk_put (cs := #[.bool a0, .string (⟨#[]⟩ : ByteArray), .string (⟨#[]⟩ : ByteArray)]) ?_ 1 _ rfl; (with_reducible repeat (first | refine blk_drewN ?_ _ | refine blk_drew ?_ | refine blk_alloc ?_ _)); refine blk_put (cs := #[.bool false, .string (⟨#[]⟩ : ByteArray), .string (⟨#[]⟩ : ByteArray)]) ?_ 0 _ rfl; (with_reducible repeat (first | refine blk_drewN ?_ _ | refine blk_drew ?_ | refine blk_alloc ?_ _)); exact BK212.out) hb); have n4_ := Aside0.mk (below_step (by repeat (first | (with_reducible first | exact HB.out | apply below_alloc | apply pw_below_drewN | apply below_drew1 | refine below_set ?_ GE194.out | refine below_set ?_ GE212.out) | exact HB.out)) hb); clear HO_1; clear HO_2; clear BK194; clear BK212; clear HB; have HO_1 := n0_; have HO_2 := n1_; have BK194 := n2_; have BK212 := n3_; have HB := n4_; clear n0_ n1_ n2_ n3_ n4_; (try clear hb); (try clear hb2); (try clear hk); (try clear hi); have hcz32_0 : w31.cell? ⟨gb212, 0, none⟩ = some (.bool a0) := (blk_cell BK212.out 0).trans rfl; have hcz32_1 : w31.cell? ⟨gb212, 1, none⟩ = some (.string t211) := (blk_cell BK212.out 1).trans rfl; have hcz32_2 : w31.cell? ⟨gb212, 2, none⟩ = some (.string (⟨#[]⟩ : ByteArray)) := (blk_cell BK212.out 2).trans rfl; have hfz32_0 := blk_frozen BK212.out 0; have hfz32_1 := blk_frozen BK212.out 1; have hfz32_2 := blk_frozen BK212.out 2; have hcz33_0 : w31.cell? ⟨gb194, 0, none⟩ = some (.bool false) := (blk_cell BK194.out 0).trans rfl; have hcz33_1 : w31.cell? ⟨gb194, 1, none⟩ = some (.string (⟨#[]⟩ : ByteArray)) := (blk_cell BK194.out 1).trans rfl; have hcz33_2 : w31.cell? ⟨gb194, 2, none⟩ = some (.string (⟨#[]⟩ : ByteArray)) := (blk_cell BK194.out 2).trans rfl; have hfz33_0 := blk_frozen BK194.out 0; have hfz33_1 := blk_frozen BK194.out 1; have hfz33_2 := blk_frozen BK194.out 2))
              refine bodyPost_ret (results_cell_row rfl _ _ gb194 54 #[.bool a0, .string t211, .string t213] (0, 0) _ rfl (by (with_reducible repeat (first | refine blk_drewN ?_ _ | refine blk_drew ?_ | refine blk_alloc ?_ _)); refine blk_put (cs := #[.bool a0, .string t211, .string (⟨#[]⟩ : ByteArray)]) ?_ 2 _ rfl; (with_reducible repeat (first | refine blk_drewN ?_ _ | refine blk_drew ?_ | refine blk_alloc ?_ _)); refine blk_put (cs := #[.bool a0, .string (⟨#[]⟩ : ByteArray), .string (⟨#[]⟩ : ByteArray)]) ?_ 1 _ rfl; (with_reducible repeat (first | refine blk_drewN ?_ _ | refine blk_drew ?_ | refine blk_alloc ?_ _)); refine blk_put (cs := #[.bool false, .string (⟨#[]⟩ : ByteArray), .string (⟨#[]⟩ : ByteArray)]) ?_ 0 _ rfl; (with_reducible repeat (first | refine blk_drewN ?_ _ | refine blk_drew ?_ | refine blk_alloc ?_ _)); refine blk_far ?_ NB194_212.out _; (with_reducible repeat (first | refine blk_drewN ?_ _ | refine blk_drew ?_ | refine blk_alloc ?_ _)); exact BK194.out) Try.underlying54 rfl (by kernel_rfl)) rfl ?_
              exact ⟨by first | rfl | (simp [errW_none, errW_some] <;> rfl) | (simp [*, errW_none, errW_some] <;> rfl), by repeat (first | (with_reducible first | exact HB.out | apply below_alloc | apply pw_below_drewN | apply below_drew1 | refine below_set ?_ GE194.out | refine below_set ?_ GE212.out) | exact HB.out)⟩
            · rw [if_neg c23] at H
              have c23b0 : decide (1 < (x2_14.length : Int)) = false := decide_eq_false c23
              have c23b1 : decide (1 < x2_14.length) = false := decide_eq_false (by omega)
              clear c23
              by_cases c34 : 0 < (x2_14.length : Int)
              · rw [if_pos c34] at H
                have c34b0 : decide (0 < (x2_14.length : Int)) = true := decide_eq_true c34
                have c34b1 : decide (0 < x2_14.length) = true := decide_eq_true (by omega)
                clear c34
                by_cases c35 : (rd x2_14 0) > 1
                · rw [if_pos c35] at H
                  have c35b0 : decide (1 < (rd x2_14 0)) = true := decide_eq_true c35
                  clear c35
                  replace H := Option.bind_eq_some_iff.mp H
                  obtain ⟨t215, A360, H⟩ := H
                  replace H : (some (a0, t211, t215)) = some (r1, r2, r3) := H
                  have A36 := Aside0.mk A360
                  clear A360
                  simp only [Option.some.injEq, Prod.mk.injEq] at H
                  obtain ⟨rfl, rfl, rfl⟩ := H
                  obtain ⟨Ao37, co37, eo37⟩ := Kd.V_slice HO_1.out
                  subst eo37
                  go_wp2_with (first | ((with_reducible refine gate_callee (f := 42) rfl ?_); refine goesL_ (some 39) rfl rfl Try.func42 (by kernel_rfl) rfl #[.slice Ao37 x1_14.length co37] rfl (by (try simp only [List.map_toArray, List.map_cons, List.map_nil]); first | done | rfl | (simp only [List.length_drop, List.length_take]; rfl)) ?_; (with_reducible refine (insolvencyref1_text.calls kj14 _ _ x1_14 t211 _ ?side1 ?side2 A22.out).mono ?_); (case side1 => repeat (first | exact (Kd.V_reads' HO_1.out).2.2 | (with_reducible refine Kd.C_alloc ?_ _) | (with_reducible refine Kd.C_drewN ?_ _) | (with_reducible refine Kd.C_drew ?_))); (case side2 => exact (Kd.V_reads' HO_1.out).2.1); rintro e w38 ⟨rfl, hb⟩; refine ⟨_, rfl, ?_⟩; have n0_ := Aside0.mk (Kd.V_below (by (with_reducible repeat (first | apply Kd.V_alloc | apply Kd.V_drewN | apply Kd.V_drew)); exact HO_1.out) hb); have n1_ := Aside0.mk (Kd.V_below (by (with_reducible repeat (first | apply Kd.V_alloc | apply Kd.V_drewN | apply Kd.V_drew)); exact HO_2.out) hb); have n2_ := Aside0.mk (blk_below (g := gb194) (o := .cells #[.bool false, .string (⟨#[]⟩ : ByteArray), .string (⟨#[]⟩ : ByteArray)] 54 (0, 0)) (by (with_reducible repeat (first | refine blk_drewN ?_ _ | refine blk_drew ?_ | refine blk_alloc ?_ _)); exact BK194.out) hb); have n3_ := Aside0.mk (below_step (by repeat (first | (with_reducible first | exact HB.out | apply below_alloc | apply pw_below_drewN | apply below_drew1 | refine below_set ?_ GE194.out) | exact HB.out)) hb); clear HO_1; clear HO_2; clear BK194; clear HB; have HO_1 := n0_; have HO_2 := n1_; have BK194 := n2_; have HB := n3_; clear n0_ n1_ n2_ n3_; (try clear hb); (try clear hb2); (try clear hk); (try clear hi)) | ((with_reducible refine gate_dst (N := 8) rfl ?_); refine box_event ?hg (N := 8) ?hd (cs := #[.bool false, .string (⟨#[]⟩ : ByteArray), .string (⟨#[]⟩ : ByteArray)]) (t := 54) ?hr ?_; (case hd => rfl); (case hg => rfl); (case hr => first | (go_simp; done) | (go_simp; rfl)); intro gb212 hg w39 hbox hb; have n0_ := Aside0.mk (Kd.V_below (Kd.V_elderB (by (with_reducible repeat (first | apply Kd.V_alloc | apply Kd.V_drewN | apply Kd.V_drew)); exact HO_1.out) gb212 (Nat.le_of_eq hg.symm)) hb); have n1_ := Aside0.mk (Kd.V_below (Kd.V_elderB (by (with_reducible repeat (first | apply Kd.V_alloc | apply Kd.V_drewN | apply Kd.V_drew)); exact HO_2.out) gb212 (Nat.le_of_eq hg.symm)) hb); have n2_ := Aside0.mk (blk_below (g := gb194) (o := .cells #[.bool false, .string (⟨#[]⟩ : ByteArray), .string (⟨#[]⟩ : ByteArray)] 54 (0, 0)) (by (with_reducible repeat (first | refine blk_drewN ?_ _ | refine blk_drew ?_ | refine blk_alloc ?_ _)); exact BK194.out) hb); have n3_ := Aside0.mk (below_step (by repeat (first | (with_reducible first | exact HB.out | apply below_alloc | apply pw_below_drewN | apply below_drew1 | refine below_set ?_ GE194.out) | exact HB.out)) hb); have n4_ := Aside0.mk (hbox); have n5_ := Aside0.mk ((by rw [hg]; exact (below_size (by repeat (first | (with_reducible first | exact HB.out | apply below_alloc | apply pw_below_drewN | apply below_drew1 | refine below_set ?_ GE194.out) | exact HB.out))) : w.heap.size ≤ gb212)); have n6_ := Aside0.mk ((by rw [hg]; exact (below_size (by repeat (first | (with_reducible first | exact HB.out | apply below_alloc | apply pw_below_drewN | apply below_drew1 | refine below_set ?_ GE194.out) | exact HB.out))) : w.heap.size ≤ gb212)); have n7_ := Aside0.mk ((by rw [hg]; exact Nat.ne_of_lt (blk_lt (g := gb194) (o := .cells #[.bool false, .string (⟨#[]⟩ : ByteArray), .string (⟨#[]⟩ : ByteArray)] 54 (0, 0)) (by (with_reducible repeat (first | refine blk_drewN ?_ _ | refine blk_drew ?_ | refine blk_alloc ?_ _)); exact BK194.out)) : gb194 ≠ gb212)); have n8_ := Aside0.mk ((by rw [hg]; exact Nat.ne_of_gt (blk_lt (g := gb194) (o := .cells #[.bool false, .string (⟨#[]⟩ : ByteArray), .string (⟨#[]⟩ : ByteArray)] 54 (0, 0)) (by (with_reducible repeat (first | refine blk_drewN ?_ _ | refine blk_drew ?_ | refine blk_alloc ?_ _)); exact BK194.out)) : gb212 ≠ gb194)); clear HO_1; clear HO_2; clear BK194; clear HB; have HO_1 := n0_; have HO_2 := n1_; have BK194 := n2_; have HB := n3_; have BK212 := n4_; have GW212 := n5_; have GE212 := n6_; have NB194_212 := n7_; have NB212_194 := n8_; clear n0_ n1_ n2_ n3_ n4_ n5_ n6_ n7_ n8_; clear hb hbox hg; have hnb40 := NB212_194.out; have hnc40 := NB194_212.out; have hcz41_0 : w39.cell? ⟨gb212, 0, none⟩ = some (.bool false) := (blk_cell BK212.out 0).trans rfl; have hcz41_1 : w39.cell? ⟨gb212, 1, none⟩ = some (.string (⟨#[]⟩ : ByteArray)) := (blk_cell BK212.out 1).trans rfl; have hcz41_2 : w39.cell? ⟨gb212, 2, none⟩ = some (.string (⟨#[]⟩ : ByteArray)) := (blk_cell BK212.out 2).trans rfl; have hfz41_0 := blk_frozen BK212.out 0; have hfz41_1 := blk_frozen BK212.out 1; have hfz41_2 := blk_frozen BK212.out 2; obtain ⟨Ao42, co42, eo42⟩ := Kd.V_slice HO_2.out; subst eo42; have p214 : 0 ≤ (0 : Int) := (by omega); have q214 : 0 < (x2_14.length : Int) := of_decide_eq_true (by first | (with_reducible assumption) | assumption); obtain ⟨ad214, e214, hx214_0⟩ := Kd.at_int (Kd.V_reads' HO_2.out).2.2 0 p214 q214; cases e214; have qi214 : (0 < x2_14.length) = True := eq_true (by omega); (try rw [show ((0 : Int)).toNat = 0 from rfl] at hx214_0); (try rw [Addr.add_zero'] at hx214_0); have hn214_0 : ad214.block ≠ gb212 := Kd.V_blk_ne HO_2.out (fun _ hk => by first | exact hk.2 | exact hk.1.2 | exact hk.1.1.2) (by omega); have hn214_1 : ad214.block ≠ gb212 := Kd.V_blk_ne HO_2.out (fun _ hk => by first | exact hk.2 | exact hk.1.2 | exact hk.1.1.2) (by omega); have hn214_2 : ad214.block ≠ gb212 := Kd.V_blk_ne HO_2.out (fun _ hk => by first | exact hk.2 | exact hk.1.2 | exact hk.1.1.2) (by omega); replace hx214_0 := (cell_far (p := ⟨gb212, 0, none⟩) (by first | (rw [add_block]; exact hn214_0) | (show (Addr.add _ _).block ≠ _; rw [add_block]; exact hn214_0) | exact hn214_0) (.bool a0)).trans hx214_0; replace hx214_0 := (cell_far (p := ⟨gb212, 1, none⟩) (by first | (rw [add_block]; exact hn214_1) | (show (Addr.add _ _).block ≠ _; rw [add_block]; exact hn214_1) | exact hn214_1) (.string t211)).trans hx214_0; replace hx214_0 := (cell_far (p := ⟨gb212, 2, none⟩) (by first | (rw [add_block]; exact hn214_2) | (show (Addr.add _ _).block ≠ _; rw [add_block]; exact hn214_2) | exact hn214_2) (.string (⟨#[]⟩ : ByteArray))).trans hx214_0; clear hn214_0; clear hn214_1; clear hn214_2; replace p214 := eq_true p214; replace q214 := eq_true q214) | ((with_reducible refine gate_callee (f := 42) rfl ?_); refine goesL_ (some 51) rfl rfl Try.func42 (by kernel_rfl) rfl #[.slice (some ad214) x2_14.length co42] rfl (by (try simp only [List.map_toArray, List.map_cons, List.map_nil]); first | done | rfl | (simp only [List.length_drop, List.length_take]; rfl)) ?_; (with_reducible refine (insolvencyref1_text.calls kj14 _ _ x2_14 t215 _ ?side1 ?side2 A36.out).mono ?_); (case side1 => refine (Kd.V_reads' (e := 74) (base := w.heap.size) (ok := fun k_ => ((((P1_ k_ ∨ P2_ k_) ∨ w.heap.size ≤ k_) ∧ k_ ≠ gb194) ∧ k_ ≠ gb212)) (n := x2_14.length) (c := co42) ?_).2.2; exact (by (with_reducible repeat (first | apply Kd.V_alloc | apply Kd.V_drewN | apply Kd.V_drew)); exact (Kd.V_mono (Kd.V_far (p := ⟨gb212, 2, none⟩) (Kd.V_far (p := ⟨gb212, 1, none⟩) (Kd.V_far (p := ⟨gb212, 0, none⟩) (Kd.V_mono HO_2.out (fun k_ hk => (⟨hk, hk.2⟩ : _ ∧ k_ ≠ gb212))) (fun _ hk => hk.2) (.bool a0)) (fun _ hk => hk.2) (.string t211)) (fun _ hk => hk.2) (.string (⟨#[]⟩ : ByteArray))) (fun _ h_ => h_.1)))); (case side2 => exact (Kd.V_reads' HO_2.out).2.1); rintro e w43 ⟨rfl, hb⟩; refine ⟨_, rfl, ?_⟩; have n0_ := Aside0.mk (Kd.V_below (by (with_reducible repeat (first | apply Kd.V_alloc | apply Kd.V_drewN | apply Kd.V_drew)); exact (Kd.V_mono (Kd.V_far (p := ⟨gb212, 2, none⟩) (Kd.V_far (p := ⟨gb212, 1, none⟩) (Kd.V_far (p := ⟨gb212, 0, none⟩) (Kd.V_mono HO_1.out (fun k_ hk => (⟨hk, hk.2⟩ : _ ∧ k_ ≠ gb212))) (fun _ hk => hk.2) (.bool a0)) (fun _ hk => hk.2) (.string t211)) (fun _ hk => hk.2) (.string (⟨#[]⟩ : ByteArray))) (fun _ h_ => h_.1))) hb); have n1_ := Aside0.mk (Kd.V_below (by (with_reducible repeat (first | apply Kd.V_alloc | apply Kd.V_drewN | apply Kd.V_drew)); exact (Kd.V_mono (Kd.V_far (p := ⟨gb212, 2, none⟩) (Kd.V_far (p := ⟨gb212, 1, none⟩) (Kd.V_far (p := ⟨gb212, 0, none⟩) (Kd.V_mono HO_2.out (fun k_ hk => (⟨hk, hk.2⟩ : _ ∧ k_ ≠ gb212))) (fun _ hk => hk.2) (.bool a0)) (fun _ hk => hk.2) (.string t211)) (fun _ hk => hk.2) (.string (⟨#[]⟩ : ByteArray))) (fun _ h_ => h_.1))) hb); have n2_ := Aside0.mk (blk_below (g := gb194) (o := .cells #[.bool false, .string (⟨#[]⟩ : ByteArray), .string (⟨#[]⟩ : ByteArray)] 54 (0, 0)) (by (with_reducible repeat (first | refine blk_drewN ?_ _ | refine blk_drew ?_ | refine blk_alloc ?_ _)); refine blk_far ?_ NB194_212.out _; (with_reducible repeat (first | refine blk_drewN ?_ _ | refine blk_drew ?_ | refine blk_alloc ?_ _)); refine blk_far ?_ NB194_212.out _; (with_reducible repeat (first | refine blk_drewN ?_ _ | refine blk_drew ?_ | refine blk_alloc ?_ _)); refine blk_far ?_ NB194_212.out _; (with_reducible repeat (first | refine blk_drewN ?_ _ | refine blk_drew ?_ | refine blk_alloc ?_ _)); exact BK194.out) hb); have n3_ := Aside0.mk (blk_below (g := gb212) (o := .cells #[.bool a0, .string t211, .string (⟨#[]⟩ : ByteArray)] 54 (0, 0)) (by (with_reducible repeat (first | refine blk_drewN ?_ _ | refine blk_drew ?_ | refine blk_alloc ?_ _)); refine blk_put (cs := #[.bool a0, .string t211, .string (⟨#[]⟩ : ByteArray)]) ?_ 2 _ rfl; (with_reducible repeat (first | refine blk_drewN ?_ _ | refine blk_drew ?_ | refine blk_alloc ?_ _)); refine blk_put (cs := #[.bool a0, .string (⟨#[]⟩ : ByteArray), .string (⟨#[]⟩ : ByteArray)]) ?_ 1 _ rfl; (with_reducible repeat (first | refine blk_drewN ?_ _ | refine blk_drew ?_ | refine blk_alloc ?_ _)); refine blk_put (cs := #[.bool false, .string (⟨#[]⟩ : ByteArray), .string (⟨#[]⟩ : ByteArray)]) ?_ 0 _ rfl; (with_reducible repeat (first | refine blk_drewN ?_ _ | refine blk_drew ?_ | refine blk_alloc ?_ _)); exact BK212.out) hb); have n4_ := Aside0.mk (below_step (by repeat (first | (with_reducible first | exact HB.out | apply below_alloc | apply pw_below_drewN | apply below_drew1 | refine below_set ?_ GE194.out | refine below_set ?_ GE212.out) | exact HB.out)) hb); clear HO_1; clear HO_2; clear BK194; clear BK212; clear HB; have HO_1 := n0_; have HO_2 := n1_; have BK194 := n2_; have BK212 := n3_; have HB := n4_; clear n0_ n1_ n2_ n3_ n4_; (try clear hb); (try clear hb2); (try clear hk); (try clear hi); have hcz44_0 : w43.cell? ⟨gb212, 0, none⟩ = some (.bool a0) := (blk_cell BK212.out 0).trans rfl; have hcz44_1 : w43.cell? ⟨gb212, 1, none⟩ = some (.string t211) := (blk_cell BK212.out 1).trans rfl; have hcz44_2 : w43.cell? ⟨gb212, 2, none⟩ = some (.string (⟨#[]⟩ : ByteArray)) := (blk_cell BK212.out 2).trans rfl; have hfz44_0 := blk_frozen BK212.out 0; have hfz44_1 := blk_frozen BK212.out 1; have hfz44_2 := blk_frozen BK212.out 2; have hcz45_0 : w43.cell? ⟨gb194, 0, none⟩ = some (.bool false) := (blk_cell BK194.out 0).trans rfl; have hcz45_1 : w43.cell? ⟨gb194, 1, none⟩ = some (.string (⟨#[]⟩ : ByteArray)) := (blk_cell BK194.out 1).trans rfl; have hcz45_2 : w43.cell? ⟨gb194, 2, none⟩ = some (.string (⟨#[]⟩ : ByteArray)) := (blk_cell BK194.out 2).trans rfl; have hfz45_0 := blk_frozen BK194.out 0; have hfz45_1 := blk_frozen BK194.out 1; have hfz45_2 := blk_frozen BK194.out 2))
                  refine bodyPost_ret (results_cell_row rfl _ _ gb194 54 #[.bool a0, .string t211, .string t215] (0, 0) _ rfl (by (with_reducible repeat (first | refine blk_drewN ?_ _ | refine blk_drew ?_ | refine blk_alloc ?_ _)); refine blk_put (cs := #[.bool a0, .string t211, .string (⟨#[]⟩ : ByteArray)]) ?_ 2 _ rfl; (with_reducible repeat (first | refine blk_drewN ?_ _ | refine blk_drew ?_ | refine blk_alloc ?_ _)); refine blk_put (cs := #[.bool a0, .string (⟨#[]⟩ : ByteArray), .string (⟨#[]⟩ : ByteArray)]) ?_ 1 _ rfl; (with_reducible repeat (first | refine blk_drewN ?_ _ | refine blk_drew ?_ | refine blk_alloc ?_ _)); refine blk_put (cs := #[.bool false, .string (⟨#[]⟩ : ByteArray), .string (⟨#[]⟩ : ByteArray)]) ?_ 0 _ rfl; (with_reducible repeat (first | refine blk_drewN ?_ _ | refine blk_drew ?_ | refine blk_alloc ?_ _)); refine blk_far ?_ NB194_212.out _; (with_reducible repeat (first | refine blk_drewN ?_ _ | refine blk_drew ?_ | refine blk_alloc ?_ _)); exact BK194.out) Try.underlying54 rfl (by kernel_rfl)) rfl ?_
                  exact ⟨by first | rfl | (simp [errW_none, errW_some] <;> rfl) | (simp [*, errW_none, errW_some] <;> rfl), by repeat (first | (with_reducible first | exact HB.out | apply below_alloc | apply pw_below_drewN | apply below_drew1 | refine below_set ?_ GE194.out | refine below_set ?_ GE212.out) | exact HB.out)⟩
                · rw [if_neg c35] at H
                  have c35b0 : decide (1 < (rd x2_14 0)) = false := decide_eq_false c35
                  clear c35
                  simp only [Option.some.injEq, Prod.mk.injEq] at H
                  obtain ⟨rfl, rfl, rfl⟩ := H
                  obtain ⟨Ao46, co46, eo46⟩ := Kd.V_slice HO_1.out
                  subst eo46
                  go_wp2_with (first | ((with_reducible refine gate_callee (f := 42) rfl ?_); refine goesL_ (some 39) rfl rfl Try.func42 (by kernel_rfl) rfl #[.slice Ao46 x1_14.length co46] rfl (by (try simp only [List.map_toArray, List.map_cons, List.map_nil]); first | done | rfl | (simp only [List.length_drop, List.length_take]; rfl)) ?_; (with_reducible refine (insolvencyref1_text.calls kj14 _ _ x1_14 t211 _ ?side1 ?side2 A22.out).mono ?_); (case side1 => repeat (first | exact (Kd.V_reads' HO_1.out).2.2 | (with_reducible refine Kd.C_alloc ?_ _) | (with_reducible refine Kd.C_drewN ?_ _) | (with_reducible refine Kd.C_drew ?_))); (case side2 => exact (Kd.V_reads' HO_1.out).2.1); rintro e w47 ⟨rfl, hb⟩; refine ⟨_, rfl, ?_⟩; have n0_ := Aside0.mk (Kd.V_below (by (with_reducible repeat (first | apply Kd.V_alloc | apply Kd.V_drewN | apply Kd.V_drew)); exact HO_1.out) hb); have n1_ := Aside0.mk (Kd.V_below (by (with_reducible repeat (first | apply Kd.V_alloc | apply Kd.V_drewN | apply Kd.V_drew)); exact HO_2.out) hb); have n2_ := Aside0.mk (blk_below (g := gb194) (o := .cells #[.bool false, .string (⟨#[]⟩ : ByteArray), .string (⟨#[]⟩ : ByteArray)] 54 (0, 0)) (by (with_reducible repeat (first | refine blk_drewN ?_ _ | refine blk_drew ?_ | refine blk_alloc ?_ _)); exact BK194.out) hb); have n3_ := Aside0.mk (below_step (by repeat (first | (with_reducible first | exact HB.out | apply below_alloc | apply pw_below_drewN | apply below_drew1 | refine below_set ?_ GE194.out) | exact HB.out)) hb); clear HO_1; clear HO_2; clear BK194; clear HB; have HO_1 := n0_; have HO_2 := n1_; have BK194 := n2_; have HB := n3_; clear n0_ n1_ n2_ n3_; (try clear hb); (try clear hb2); (try clear hk); (try clear hi)) | ((with_reducible refine gate_dst (N := 8) rfl ?_); refine box_event ?hg (N := 8) ?hd (cs := #[.bool false, .string (⟨#[]⟩ : ByteArray), .string (⟨#[]⟩ : ByteArray)]) (t := 54) ?hr ?_; (case hd => rfl); (case hg => rfl); (case hr => first | (go_simp; done) | (go_simp; rfl)); intro gb212 hg w48 hbox hb; have n0_ := Aside0.mk (Kd.V_below (Kd.V_elderB (by (with_reducible repeat (first | apply Kd.V_alloc | apply Kd.V_drewN | apply Kd.V_drew)); exact HO_1.out) gb212 (Nat.le_of_eq hg.symm)) hb); have n1_ := Aside0.mk (Kd.V_below (Kd.V_elderB (by (with_reducible repeat (first | apply Kd.V_alloc | apply Kd.V_drewN | apply Kd.V_drew)); exact HO_2.out) gb212 (Nat.le_of_eq hg.symm)) hb); have n2_ := Aside0.mk (blk_below (g := gb194) (o := .cells #[.bool false, .string (⟨#[]⟩ : ByteArray), .string (⟨#[]⟩ : ByteArray)] 54 (0, 0)) (by (with_reducible repeat (first | refine blk_drewN ?_ _ | refine blk_drew ?_ | refine blk_alloc ?_ _)); exact BK194.out) hb); have n3_ := Aside0.mk (below_step (by repeat (first | (with_reducible first | exact HB.out | apply below_alloc | apply pw_below_drewN | apply below_drew1 | refine below_set ?_ GE194.out) | exact HB.out)) hb); have n4_ := Aside0.mk (hbox); have n5_ := Aside0.mk ((by rw [hg]; exact (below_size (by repeat (first | (with_reducible first | exact HB.out | apply below_alloc | apply pw_below_drewN | apply below_drew1 | refine below_set ?_ GE194.out) | exact HB.out))) : w.heap.size ≤ gb212)); have n6_ := Aside0.mk ((by rw [hg]; exact (below_size (by repeat (first | (with_reducible first | exact HB.out | apply below_alloc | apply pw_below_drewN | apply below_drew1 | refine below_set ?_ GE194.out) | exact HB.out))) : w.heap.size ≤ gb212)); have n7_ := Aside0.mk ((by rw [hg]; exact Nat.ne_of_lt (blk_lt (g := gb194) (o := .cells #[.bool false, .string (⟨#[]⟩ : ByteArray), .string (⟨#[]⟩ : ByteArray)] 54 (0, 0)) (by (with_reducible repeat (first | refine blk_drewN ?_ _ | refine blk_drew ?_ | refine blk_alloc ?_ _)); exact BK194.out)) : gb194 ≠ gb212)); have n8_ := Aside0.mk ((by rw [hg]; exact Nat.ne_of_gt (blk_lt (g := gb194) (o := .cells #[.bool false, .string (⟨#[]⟩ : ByteArray), .string (⟨#[]⟩ : ByteArray)] 54 (0, 0)) (by (with_reducible repeat (first | refine blk_drewN ?_ _ | refine blk_drew ?_ | refine blk_alloc ?_ _)); exact BK194.out)) : gb212 ≠ gb194)); clear HO_1; clear HO_2; clear BK194; clear HB; have HO_1 := n0_; have HO_2 := n1_; have BK194 := n2_; have HB := n3_; have BK212 := n4_; have GW212 := n5_; have GE212 := n6_; have NB194_212 := n7_; have NB212_194 := n8_; clear n0_ n1_ n2_ n3_ n4_ n5_ n6_ n7_ n8_; clear hb hbox hg; have hnb49 := NB212_194.out; have hnc49 := NB194_212.out; have hcz50_0 : w48.cell? ⟨gb212, 0, none⟩ = some (.bool false) := (blk_cell BK212.out 0).trans rfl; have hcz50_1 : w48.cell? ⟨gb212, 1, none⟩ = some (.string (⟨#[]⟩ : ByteArray)) := (blk_cell BK212.out 1).trans rfl; have hcz50_2 : w48.cell? ⟨gb212, 2, none⟩ = some (.string (⟨#[]⟩ : ByteArray)) := (blk_cell BK212.out 2).trans rfl; have hfz50_0 := blk_frozen BK212.out 0; have hfz50_1 := blk_frozen BK212.out 1; have hfz50_2 := blk_frozen BK212.out 2; obtain ⟨Ao51, co51, eo51⟩ := Kd.V_slice HO_2.out; subst eo51; have p214 : 0 ≤ (0 : Int) := (by omega); have q214 : 0 < (x2_14.length : Int) := of_decide_eq_true (by first | (with_reducible assumption) | assumption); obtain ⟨ad214, e214, hx214_0⟩ := Kd.at_int (Kd.V_reads' HO_2.out).2.2 0 p214 q214; cases e214; have qi214 : (0 < x2_14.length) = True := eq_true (by omega); (try rw [show ((0 : Int)).toNat = 0 from rfl] at hx214_0); (try rw [Addr.add_zero'] at hx214_0); have hn214_0 : ad214.block ≠ gb212 := Kd.V_blk_ne HO_2.out (fun _ hk => by first | exact hk.2 | exact hk.1.2 | exact hk.1.1.2) (by omega); have hn214_1 : ad214.block ≠ gb212 := Kd.V_blk_ne HO_2.out (fun _ hk => by first | exact hk.2 | exact hk.1.2 | exact hk.1.1.2) (by omega); have hn214_2 : ad214.block ≠ gb212 := Kd.V_blk_ne HO_2.out (fun _ hk => by first | exact hk.2 | exact hk.1.2 | exact hk.1.1.2) (by omega); replace hx214_0 := (cell_far (p := ⟨gb212, 0, none⟩) (by first | (rw [add_block]; exact hn214_0) | (show (Addr.add _ _).block ≠ _; rw [add_block]; exact hn214_0) | exact hn214_0) (.bool a0)).trans hx214_0; replace hx214_0 := (cell_far (p := ⟨gb212, 1, none⟩) (by first | (rw [add_block]; exact hn214_1) | (show (Addr.add _ _).block ≠ _; rw [add_block]; exact hn214_1) | exact hn214_1) (.string t211)).trans hx214_0; replace hx214_0 := (cell_far (p := ⟨gb212, 2, none⟩) (by first | (rw [add_block]; exact hn214_2) | (show (Addr.add _ _).block ≠ _; rw [add_block]; exact hn214_2) | exact hn214_2) (.string (⟨#[]⟩ : ByteArray))).trans hx214_0; clear hn214_0; clear hn214_1; clear hn214_2; replace p214 := eq_true p214; replace q214 := eq_true q214; have hcz52_0 : w48.cell? ⟨gb194, 0, none⟩ = some (.bool false) := (blk_cell BK194.out 0).trans rfl; have hcz52_1 : w48.cell? ⟨gb194, 1, none⟩ = some (.string (⟨#[]⟩ : ByteArray)) := (blk_cell BK194.out 1).trans rfl; have hcz52_2 : w48.cell? ⟨gb194, 2, none⟩ = some (.string (⟨#[]⟩ : ByteArray)) := (blk_cell BK194.out 2).trans rfl; have hfz52_0 := blk_frozen BK194.out 0; have hfz52_1 := blk_frozen BK194.out 1; have hfz52_2 := blk_frozen BK194.out 2))
                  refine bodyPost_ret (results_cell_row rfl _ _ gb194 54 #[.bool a0, .string t211, .string (⟨#[]⟩ : ByteArray)] (0, 0) _ rfl (by (with_reducible repeat (first | refine blk_drewN ?_ _ | refine blk_drew ?_ | refine blk_alloc ?_ _)); refine blk_put (cs := #[.bool a0, .string t211, .string (⟨#[]⟩ : ByteArray)]) ?_ 2 _ rfl; (with_reducible repeat (first | refine blk_drewN ?_ _ | refine blk_drew ?_ | refine blk_alloc ?_ _)); refine blk_put (cs := #[.bool a0, .string (⟨#[]⟩ : ByteArray), .string (⟨#[]⟩ : ByteArray)]) ?_ 1 _ rfl; (with_reducible repeat (first | refine blk_drewN ?_ _ | refine blk_drew ?_ | refine blk_alloc ?_ _)); refine blk_put (cs := #[.bool false, .string (⟨#[]⟩ : ByteArray), .string (⟨#[]⟩ : ByteArray)]) ?_ 0 _ rfl; (with_reducible repeat (first | refine blk_drewN ?_ _ | refine blk_drew ?_ | refine blk_alloc ?_ _)); refine blk_far ?_ NB194_212.out _; (with_reducible repeat (first | refine blk_drewN ?_ _ | refine blk_drew ?_ | refine blk_alloc ?_ _)); refine blk_far ?_ NB194_212.out _; (with_reducible repeat (first | refine blk_drewN ?_ _ | refine blk_drew ?_ | refine blk_alloc ?_ _)); refine blk_far ?_ NB194_212.out _; (with_reducible repeat (first | refine blk_drewN ?_ _ | refine blk_drew ?_ | refine blk_alloc ?_ _)); exact BK194.out) Try.underlying54 rfl (by kernel_rfl)) rfl ?_
                  exact ⟨by first | rfl | (simp [errW_none, errW_some] <;> rfl) | (simp [*, errW_none, errW_some] <;> rfl), by repeat (first | (with_reducible first | exact HB.out | apply below_alloc | apply pw_below_drewN | apply below_drew1 | refine below_set ?_ GE194.out | refine below_set ?_ GE212.out) | exact HB.out)⟩
              · rw [if_neg c34] at H
                exact absurd H (by simp)

end Go.Proofs.Ytljenpakncmlkaa.PAll
