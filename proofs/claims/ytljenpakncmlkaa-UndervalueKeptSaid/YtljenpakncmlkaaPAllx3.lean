-- PRINTED by a session's own changed print
import Derived.Test.YtljenpakncmlkaaPAllx0
import Derived.Test.YtljenpakncmlkaaTracerTraceW
namespace Go.Proofs.Ytljenpakncmlkaa.PAll
open Go.RowKit Go.Proofs.YtljenpakncmlkaaW.PrintWords Go.Proofs.YtljenpakncmlkaaW.PrintLast Go.Proofs.YtljenpakncmlkaaW.PrintMore
attribute [local go_sem] max2_int min2_int max_two min_two max_three min_three max_four min_four   -- for this text's walks alone
set_option linter.unusedVariables false
set_option linter.unusedSimpArgs false

-- GIVEN: function 12 (undervalue_Trace)

/-! ### insolvencylaw27_awake: function 7 -/
def insolvencylaw27_awake.f (k : Nat)  : Option (Bool) := (undervalue_Trace.f k (([(⟨0, 1, 0, 1, 100, 0⟩ : S36), (⟨0, 1, 1, 2, 50, 0⟩ : S36), (⟨0, 3, 3, 1, 40, 0⟩ : S36)] : List (S36))) (([0, 30, 0, 0] : List Int)) 0).bind fun bt120 => (if bt120.2.2 = 0 then (if (bt120.1.length : Int) = 4 then (if 1 < (bt120.1.length : Int) then (if (rd bt120.1 1) = 40 then (if 2 < (bt120.1.length : Int) then (if (rd bt120.1 2) = 20 then (some (bt120.2.1 == 40)) else (some false)) else (none)) else (some false)) else (none)) else (some false)) else (some false))
theorem insolvencylaw27_awake.mono : ∀ k, LeO (insolvencylaw27_awake.f k ) (insolvencylaw27_awake.f (k + 1) ) := by
  intro  k
  unfold insolvencylaw27_awake.f
  repeat' first
      | (with_reducible exact undervalue_Trace.mono _ _ _ _)
      | (with_reducible exact LeO.refl _)
      | (with_reducible exact LeO.none _)
      | (with_reducible refine LeO.ite ?_ ?_)
      | (with_reducible refine LeO.bind ?_ (fun _ => ?_))
      | exact undervalue_Trace.mono _ _ _ _
      | exact LeO.none _
      | refine LeO.ite ?_ ?_
      | refine LeO.bind ?_ (fun _ => ?_)
set_option maxHeartbeats 8000000 in
set_option maxRecDepth 100000 in
theorem insolvencylaw27_awake.calls (k : Nat)  (r : Bool) (w : World) (h : insolvencylaw27_awake.f k  = some r) :
    Calls Try.prog 7 #[] w fun e w' => e = .returned (.bool r) ∧ Below w.heap.size w w' := by
  have hu36 := Try.underlying36
  have HB := Aside0.mk (Below.refl w.heap.size w)
  have H : ((undervalue_Trace.f k (([(⟨0, 1, 0, 1, 100, 0⟩ : S36), (⟨0, 1, 1, 2, 50, 0⟩ : S36), (⟨0, 3, 3, 1, 40, 0⟩ : S36)] : List (S36))) (([0, 30, 0, 0] : List Int)) 0).bind fun bt120 => (if bt120.2.2 = 0 then (if (bt120.1.length : Int) = 4 then (if 1 < (bt120.1.length : Int) then (if (rd bt120.1 1) = 40 then (if 2 < (bt120.1.length : Int) then (if (rd bt120.1 2) = 20 then (some (bt120.2.1 == 40)) else (some false)) else (none)) else (some false)) else (none)) else (some false)) else (some false))) = some r := h
  clear h
  obtain ⟨y114, hy114⟩ : ∃ y_ : List (S36), y_ = (([(⟨0, 1, 0, 1, 100, 0⟩ : S36), (⟨0, 1, 1, 2, 50, 0⟩ : S36), (⟨0, 3, 3, 1, 40, 0⟩ : S36)] : List (S36))) := ⟨_, rfl⟩
  replace H : ((undervalue_Trace.f k y114 (([0, 30, 0, 0] : List Int)) 0).bind fun bt120 => (if bt120.2.2 = 0 then (if (bt120.1.length : Int) = 4 then (if 1 < (bt120.1.length : Int) then (if (rd bt120.1 1) = 40 then (if 2 < (bt120.1.length : Int) then (if (rd bt120.1 2) = 20 then (some (bt120.2.1 == 40)) else (some false)) else (none)) else (some false)) else (none)) else (some false)) else (some false))) = some r := by first | (rw [hy114]; with_reducible exact H) | (have H2_ := (Option.bind_some _ _).symm.trans H; rw [hy114]; with_reducible exact H2_) | (have H2_ := (Option.bind_some _ _).symm.trans H; with_reducible exact H2_) | with_reducible exact H | (rw [hy114]; exact H) | exact H
  have Ny114 := Aside0.mk hy114
  clear hy114
  obtain ⟨y117, hy117⟩ : ∃ y_ : List Int, y_ = (([0, 30, 0, 0] : List Int)) := ⟨_, rfl⟩
  replace H : ((undervalue_Trace.f k y114 y117 0).bind fun bt120 => (if bt120.2.2 = 0 then (if (bt120.1.length : Int) = 4 then (if 1 < (bt120.1.length : Int) then (if (rd bt120.1 1) = 40 then (if 2 < (bt120.1.length : Int) then (if (rd bt120.1 2) = 20 then (some (bt120.2.1 == 40)) else (some false)) else (none)) else (some false)) else (none)) else (some false)) else (some false))) = some r := by first | (rw [hy117]; with_reducible exact H) | (have H2_ := (Option.bind_some _ _).symm.trans H; rw [hy117]; with_reducible exact H2_) | (have H2_ := (Option.bind_some _ _).symm.trans H; with_reducible exact H2_) | with_reducible exact H | (rw [hy117]; exact H) | exact H
  have Ny117 := Aside0.mk hy117
  clear hy117
  replace H := Option.bind_eq_some_iff.mp H
  obtain ⟨⟨t120, t121, t122⟩, A10, H⟩ := H
  replace H : (if t122 = 0 then (if (t120.length : Int) = 4 then (if 1 < (t120.length : Int) then (if (rd t120 1) = 40 then (if 2 < (t120.length : Int) then (if (rd t120 2) = 20 then (some (t121 == 40)) else (some false)) else (none)) else (some false)) else (none)) else (some false)) else (some false)) = some r := H
  have A1 := Aside0.mk A10
  clear A10
  by_cases c2 : t122 = 0
  · rw [if_pos c2] at H
    have c2b0 : (t122 == 0) = true := beq_iff_eq.mpr c2
    have c2b1 : (t122 != 0) = false := bne_eq_false_iff_eq.mpr c2
    clear c2
    by_cases c3 : (t120.length : Int) = 4
    · rw [if_pos c3] at H
      have c3b0 : ((t120.length : Int) == 4) = true := beq_iff_eq.mpr c3
      have c3b1 : ((t120.length : Int) != 4) = false := bne_eq_false_iff_eq.mpr c3
      clear c3
      by_cases c4 : 1 < (t120.length : Int)
      · rw [if_pos c4] at H
        have c4b0 : decide (1 < (t120.length : Int)) = true := decide_eq_true c4
        have c4b1 : decide (1 < t120.length) = true := decide_eq_true (by omega)
        clear c4
        by_cases c5 : (rd t120 1) = 40
        · rw [if_pos c5] at H
          have c5b0 : ((rd t120 1) == 40) = true := beq_iff_eq.mpr c5
          have c5b1 : ((rd t120 1) != 40) = false := bne_eq_false_iff_eq.mpr c5
          clear c5
          by_cases c6 : 2 < (t120.length : Int)
          · rw [if_pos c6] at H
            have c6b0 : decide (2 < (t120.length : Int)) = true := decide_eq_true c6
            have c6b1 : decide (2 < t120.length) = true := decide_eq_true (by omega)
            clear c6
            by_cases c7 : (rd t120 2) = 20
            · rw [if_pos c7] at H
              have c7b0 : ((rd t120 2) == 20) = true := beq_iff_eq.mpr c7
              have c7b1 : ((rd t120 2) != 20) = false := bne_eq_false_iff_eq.mpr c7
              clear c7
              obtain rfl := Option.some.inj H
              go_enter Try.func7, Try.ntmps7
              go_wp2_with (first | ((with_reducible refine gate_dst (N := 8) rfl ?_); (try (refine gate_guard (by rfl) ?_; dsimp only)); refine Kd.R_lit k36 _ 36 ?hg (N := 8) ?hd (xs := ([(⟨0, 1, 0, 1, 100, 0⟩ : S36), (⟨0, 1, 1, 2, 50, 0⟩ : S36), (⟨0, 3, 3, 1, 40, 0⟩ : S36)] : List (S36))) (inner := [.int .i64 0, .int .i64 1, .int .i64 0, .int .i64 1, .int .i64 100, .int .i64 0, .int .i64 0, .int .i64 1, .int .i64 1, .int .i64 2, .int .i64 50, .int .i64 0, .int .i64 0, .int .i64 3, .int .i64 3, .int .i64 1, .int .i64 40, .int .i64 0]) (ok := fun _ => True) (okp := fun _ => True) ?hr ?hp (fun _ hk => hk) trivial (Below.refl _ _) (Nat.le_refl _) (by simp) ?_; (case hd => rfl); (case hg => rfl); (case hr => first | (go_simp; done) | (go_simp; rfl)); (case hp => exact (Reps.c6 (show Kd.M k36 _ _ _ (⟨0, 1, 0, 1, 100, 0⟩ : S36) [.int .i64 0, .int .i64 1, .int .i64 0, .int .i64 1, .int .i64 100, .int .i64 0] from (k36_mkM _ _ _ (⟨0, 1, 0, 1, 100, 0⟩ : S36) )) (Reps.c6 (show Kd.M k36 _ _ _ (⟨0, 1, 1, 2, 50, 0⟩ : S36) [.int .i64 0, .int .i64 1, .int .i64 1, .int .i64 2, .int .i64 50, .int .i64 0] from (k36_mkM _ _ _ (⟨0, 1, 1, 2, 50, 0⟩ : S36) )) (Reps.c6 (show Kd.M k36 _ _ _ (⟨0, 3, 3, 1, 40, 0⟩ : S36) [.int .i64 0, .int .i64 3, .int .i64 3, .int .i64 1, .int .i64 40, .int .i64 0] from (k36_mkM _ _ _ (⟨0, 3, 3, 1, 40, 0⟩ : S36) )) (Reps.none _ _))))); intro v115 w8 ho9 hb hg_ hnew_; clear hg_ hnew_; (first | rw [← Ny114.out] at ho9 | (simp only [Int.reduceToNat] at ho9; rw [← Ny114.out] at ho9)); have n0_ := Aside0.mk (Kd.R_lower ho9 (below_size (by repeat (first | (with_reducible first | exact HB.out | apply below_alloc | apply pw_below_drewN | apply below_drew1) | exact HB.out)))); have n1_ := Aside0.mk (below_step (by repeat (first | (with_reducible first | exact HB.out | apply below_alloc | apply pw_below_drewN | apply below_drew1) | exact HB.out)) hb); clear HB; have HO116 := n0_; have HB := n1_; clear n0_ n1_; clear hb ho9) | ((with_reducible refine gate_dst (N := 11) rfl ?_); (try (refine gate_guard (by rfl) ?_; dsimp only)); refine Kd.R_lit (Kd.int .i64) _ 2 ?hg (N := 11) ?hd (xs := ([0, 30, 0, 0] : List Int)) (inner := [.int .i64 0, .int .i64 30, .int .i64 0, .int .i64 0]) (ok := fun _ => True) (okp := fun _ => True) ?hr ?hp (fun _ hk => hk) trivial (Below.refl _ _) (Nat.le_refl _) (by simp) ?_; (case hd => rfl); (case hg => rfl); (case hr => first | (go_simp; done) | (go_simp; rfl)); (case hp => exact (Reps.one (show Kd.M (Kd.int .i64) _ _ _ 0 [.int .i64 0] from rfl) (Reps.one (show Kd.M (Kd.int .i64) _ _ _ 30 [.int .i64 30] from rfl) (Reps.one (show Kd.M (Kd.int .i64) _ _ _ 0 [.int .i64 0] from rfl) (Reps.one (show Kd.M (Kd.int .i64) _ _ _ 0 [.int .i64 0] from rfl) (Reps.none _ _)))))); intro v118 w10 ho11 hb hg_ hnew_; clear hg_ hnew_; (first | rw [← Ny117.out] at ho11 | (simp only [Int.reduceToNat] at ho11; rw [← Ny117.out] at ho11)); have n0_ := Aside0.mk (Kd.R_below (by (with_reducible repeat (first | apply Kd.R_alloc | apply Kd.R_drewN | apply Kd.R_drew)); exact HO116.out) hb); have n1_ := Aside0.mk (Kd.R_lower ho11 (below_size (by repeat (first | (with_reducible first | exact HB.out | apply below_alloc | apply pw_below_drewN | apply below_drew1) | exact HB.out)))); have n2_ := Aside0.mk (below_step (by repeat (first | (with_reducible first | exact HB.out | apply below_alloc | apply pw_below_drewN | apply below_drew1) | exact HB.out)) hb); clear HO116; clear HB; have HO116 := n0_; have HO119 := n1_; have HB := n2_; clear n0_ n1_ n2_; clear hb ho11; obtain ⟨Ao12, co12, eo12⟩ := Kd.R_slice HO116.out; subst eo12; obtain ⟨Ao13, co13, eo13⟩ := Kd.R_slice HO119.out; subst eo13) | ((with_reducible refine gate_callee (f := 12) rfl ?_); refine goesL_ (some 12) rfl rfl Try.func12 (by kernel_rfl) rfl #[.slice Ao12 y114.length co12, .slice Ao13 y117.length co13, .int .i64 0] rfl (by (try simp only [List.map_toArray, List.map_cons, List.map_nil]); first | done | rfl | (simp only [List.length_drop, List.length_take]; rfl)) ?_; (with_reducible refine (undervalue_Trace.calls k _ _ y114 _ _ y117 0 t120 t121 t122 _ ?side1 ?side2 ?side3 ?side4 A1.out).mono ?_); (case side1 => repeat (first | exact (Kd.R_reads' HO116.out).2.2 | (with_reducible refine Kd.C_alloc ?_ _) | (with_reducible refine Kd.C_drewN ?_ _) | (with_reducible refine Kd.C_drew ?_))); (case side2 => exact (Kd.R_reads' HO116.out).2.1); (case side3 => repeat (first | exact (Kd.R_reads' HO119.out).2.2 | (with_reducible refine Kd.C_alloc ?_ _) | (with_reducible refine Kd.C_drewN ?_ _) | (with_reducible refine Kd.C_drew ?_))); (case side4 => exact (Kd.R_reads' HO119.out).2.1); rintro e w14 ⟨v123, rfl, ho0, hb⟩; refine ⟨_, rfl, ?_⟩; have n0_ := Aside0.mk (Kd.R_below (by (with_reducible repeat (first | apply Kd.R_alloc | apply Kd.R_drewN | apply Kd.R_drew)); exact HO116.out) hb); have n1_ := Aside0.mk (Kd.R_elder' (by (with_reducible repeat (first | apply Kd.R_alloc | apply Kd.R_drewN | apply Kd.R_drew)); exact HO119.out) (Kd.R_base ho0) hb); have n2_ := Aside0.mk (Kd.R_lower (Kd.R_new' ho0 (Kd.R_lt (by (with_reducible repeat (first | apply Kd.R_alloc | apply Kd.R_drewN | apply Kd.R_drew)); exact HO119.out))) (below_size (by repeat (first | (with_reducible first | exact HB.out | apply below_alloc | apply pw_below_drewN | apply below_drew1) | exact HB.out)))); have n3_ := Aside0.mk (below_step (by repeat (first | (with_reducible first | exact HB.out | apply below_alloc | apply pw_below_drewN | apply below_drew1) | exact HB.out)) hb); clear HO116; clear HO119; clear HB; have HO116 := n0_; have HO119 := n1_; have HO124 := n2_; have HB := n3_; clear n0_ n1_ n2_ n3_; (try clear hb); (try clear hb2); (try clear hk); (try clear hi); (try clear ho0); obtain ⟨Ao15, co15, eo15⟩ := Kd.R_slice HO124.out; subst eo15; have p125 : 0 ≤ (1 : Int) := (by omega); have q125 : 1 < (t120.length : Int) := of_decide_eq_true (by first | (with_reducible assumption) | assumption); obtain ⟨ad125, e125, hx125_0⟩ := Kd.at_int (Kd.R_reads' HO124.out).2.2 1 p125 q125; cases e125; (try simp only [show (1 : Int).toNat = 1 from rfl, Nat.reduceMul, Nat.reduceEqDiff, Go.Addr.add, ↓reduceIte] at hx125_0); have qi125 : (1 < t120.length) = True := eq_true (by omega); (try rw [show ((1 : Int)).toNat = 1 from rfl] at hx125_0); replace p125 := eq_true p125; replace q125 := eq_true q125; have p126 : 0 ≤ (2 : Int) := (by omega); have q126 : 2 < (t120.length : Int) := of_decide_eq_true (by first | (with_reducible assumption) | assumption); obtain ⟨ad126, e126, hx126_0⟩ := Kd.at_int (Kd.R_reads' HO124.out).2.2 2 p126 q126; obtain rfl : ad125 = ad126 := (by injection e126); (try simp only [show (2 : Int).toNat = 2 from rfl, Nat.reduceMul, Nat.reduceEqDiff, Go.Addr.add, ↓reduceIte] at hx126_0); have qi126 : (2 < t120.length) = True := eq_true (by omega); (try rw [show ((2 : Int)).toNat = 2 from rfl] at hx126_0); replace p126 := eq_true p126; replace q126 := eq_true q126))
              go_ret
              exact ⟨by first | rfl | (simp [errW_none, errW_some] <;> rfl) | (simp [*, errW_none, errW_some] <;> rfl), by repeat (first | (with_reducible first | exact HB.out | apply below_alloc | apply pw_below_drewN | apply below_drew1) | exact HB.out)⟩
            · rw [if_neg c7] at H
              have c7b0 : ((rd t120 2) == 20) = false := beq_eq_false_iff_ne.mpr c7
              have c7b1 : ((rd t120 2) != 20) = true := bne_iff_ne.mpr c7
              obtain rfl := Option.some.inj H
              go_enter Try.func7, Try.ntmps7
              go_wp2_with (first | ((with_reducible refine gate_dst (N := 8) rfl ?_); (try (refine gate_guard (by rfl) ?_; dsimp only)); refine Kd.R_lit k36 _ 36 ?hg (N := 8) ?hd (xs := ([(⟨0, 1, 0, 1, 100, 0⟩ : S36), (⟨0, 1, 1, 2, 50, 0⟩ : S36), (⟨0, 3, 3, 1, 40, 0⟩ : S36)] : List (S36))) (inner := [.int .i64 0, .int .i64 1, .int .i64 0, .int .i64 1, .int .i64 100, .int .i64 0, .int .i64 0, .int .i64 1, .int .i64 1, .int .i64 2, .int .i64 50, .int .i64 0, .int .i64 0, .int .i64 3, .int .i64 3, .int .i64 1, .int .i64 40, .int .i64 0]) (ok := fun _ => True) (okp := fun _ => True) ?hr ?hp (fun _ hk => hk) trivial (Below.refl _ _) (Nat.le_refl _) (by simp) ?_; (case hd => rfl); (case hg => rfl); (case hr => first | (go_simp; done) | (go_simp; rfl)); (case hp => exact (Reps.c6 (show Kd.M k36 _ _ _ (⟨0, 1, 0, 1, 100, 0⟩ : S36) [.int .i64 0, .int .i64 1, .int .i64 0, .int .i64 1, .int .i64 100, .int .i64 0] from (k36_mkM _ _ _ (⟨0, 1, 0, 1, 100, 0⟩ : S36) )) (Reps.c6 (show Kd.M k36 _ _ _ (⟨0, 1, 1, 2, 50, 0⟩ : S36) [.int .i64 0, .int .i64 1, .int .i64 1, .int .i64 2, .int .i64 50, .int .i64 0] from (k36_mkM _ _ _ (⟨0, 1, 1, 2, 50, 0⟩ : S36) )) (Reps.c6 (show Kd.M k36 _ _ _ (⟨0, 3, 3, 1, 40, 0⟩ : S36) [.int .i64 0, .int .i64 3, .int .i64 3, .int .i64 1, .int .i64 40, .int .i64 0] from (k36_mkM _ _ _ (⟨0, 3, 3, 1, 40, 0⟩ : S36) )) (Reps.none _ _))))); intro v115 w16 ho17 hb hg_ hnew_; clear hg_ hnew_; (first | rw [← Ny114.out] at ho17 | (simp only [Int.reduceToNat] at ho17; rw [← Ny114.out] at ho17)); have n0_ := Aside0.mk (Kd.R_lower ho17 (below_size (by repeat (first | (with_reducible first | exact HB.out | apply below_alloc | apply pw_below_drewN | apply below_drew1) | exact HB.out)))); have n1_ := Aside0.mk (below_step (by repeat (first | (with_reducible first | exact HB.out | apply below_alloc | apply pw_below_drewN | apply below_drew1) | exact HB.out)) hb); clear HB; have HO116 := n0_; have HB := n1_; clear n0_ n1_; clear hb ho17) | ((with_reducible refine gate_dst (N := 11) rfl ?_); (try (refine gate_guard (by rfl) ?_; dsimp only)); refine Kd.R_lit (Kd.int .i64) _ 2 ?hg (N := 11) ?hd (xs := ([0, 30, 0, 0] : List Int)) (inner := [.int .i64 0, .int .i64 30, .int .i64 0, .int .i64 0]) (ok := fun _ => True) (okp := fun _ => True) ?hr ?hp (fun _ hk => hk) trivial (Below.refl _ _) (Nat.le_refl _) (by simp) ?_; (case hd => rfl); (case hg => rfl); (case hr => first | (go_simp; done) | (go_simp; rfl)); (case hp => exact (Reps.one (show Kd.M (Kd.int .i64) _ _ _ 0 [.int .i64 0] from rfl) (Reps.one (show Kd.M (Kd.int .i64) _ _ _ 30 [.int .i64 30] from rfl) (Reps.one (show Kd.M (Kd.int .i64) _ _ _ 0 [.int .i64 0] from rfl) (Reps.one (show Kd.M (Kd.int .i64) _ _ _ 0 [.int .i64 0] from rfl) (Reps.none _ _)))))); intro v118 w18 ho19 hb hg_ hnew_; clear hg_ hnew_; (first | rw [← Ny117.out] at ho19 | (simp only [Int.reduceToNat] at ho19; rw [← Ny117.out] at ho19)); have n0_ := Aside0.mk (Kd.R_below (by (with_reducible repeat (first | apply Kd.R_alloc | apply Kd.R_drewN | apply Kd.R_drew)); exact HO116.out) hb); have n1_ := Aside0.mk (Kd.R_lower ho19 (below_size (by repeat (first | (with_reducible first | exact HB.out | apply below_alloc | apply pw_below_drewN | apply below_drew1) | exact HB.out)))); have n2_ := Aside0.mk (below_step (by repeat (first | (with_reducible first | exact HB.out | apply below_alloc | apply pw_below_drewN | apply below_drew1) | exact HB.out)) hb); clear HO116; clear HB; have HO116 := n0_; have HO119 := n1_; have HB := n2_; clear n0_ n1_ n2_; clear hb ho19; obtain ⟨Ao20, co20, eo20⟩ := Kd.R_slice HO116.out; subst eo20; obtain ⟨Ao21, co21, eo21⟩ := Kd.R_slice HO119.out; subst eo21) | ((with_reducible refine gate_callee (f := 12) rfl ?_); refine goesL_ (some 12) rfl rfl Try.func12 (by kernel_rfl) rfl #[.slice Ao20 y114.length co20, .slice Ao21 y117.length co21, .int .i64 0] rfl (by (try simp only [List.map_toArray, List.map_cons, List.map_nil]); first | done | rfl | (simp only [List.length_drop, List.length_take]; rfl)) ?_; (with_reducible refine (undervalue_Trace.calls k _ _ y114 _ _ y117 0 t120 t121 t122 _ ?side1 ?side2 ?side3 ?side4 A1.out).mono ?_); (case side1 => repeat (first | exact (Kd.R_reads' HO116.out).2.2 | (with_reducible refine Kd.C_alloc ?_ _) | (with_reducible refine Kd.C_drewN ?_ _) | (with_reducible refine Kd.C_drew ?_))); (case side2 => exact (Kd.R_reads' HO116.out).2.1); (case side3 => repeat (first | exact (Kd.R_reads' HO119.out).2.2 | (with_reducible refine Kd.C_alloc ?_ _) | (with_reducible refine Kd.C_drewN ?_ _) | (with_reducible refine Kd.C_drew ?_))); (case side4 => exact (Kd.R_reads' HO119.out).2.1); rintro e w22 ⟨v123, rfl, ho0, hb⟩; refine ⟨_, rfl, ?_⟩; have n0_ := Aside0.mk (Kd.R_below (by (with_reducible repeat (first | apply Kd.R_alloc | apply Kd.R_drewN | apply Kd.R_drew)); exact HO116.out) hb); have n1_ := Aside0.mk (Kd.R_elder' (by (with_reducible repeat (first | apply Kd.R_alloc | apply Kd.R_drewN | apply Kd.R_drew)); exact HO119.out) (Kd.R_base ho0) hb); have n2_ := Aside0.mk (Kd.R_lower (Kd.R_new' ho0 (Kd.R_lt (by (with_reducible repeat (first | apply Kd.R_alloc | apply Kd.R_drewN | apply Kd.R_drew)); exact HO119.out))) (below_size (by repeat (first | (with_reducible first | exact HB.out | apply below_alloc | apply pw_below_drewN | apply below_drew1) | exact HB.out)))); have n3_ := Aside0.mk (below_step (by repeat (first | (with_reducible first | exact HB.out | apply below_alloc | apply pw_below_drewN | apply below_drew1) | exact HB.out)) hb); clear HO116; clear HO119; clear HB; have HO116 := n0_; have HO119 := n1_; have HO124 := n2_; have HB := n3_; clear n0_ n1_ n2_ n3_; (try clear hb); (try clear hb2); (try clear hk); (try clear hi); (try clear ho0); obtain ⟨Ao23, co23, eo23⟩ := Kd.R_slice HO124.out; subst eo23; have p125 : 0 ≤ (1 : Int) := (by omega); have q125 : 1 < (t120.length : Int) := of_decide_eq_true (by first | (with_reducible assumption) | assumption); obtain ⟨ad125, e125, hx125_0⟩ := Kd.at_int (Kd.R_reads' HO124.out).2.2 1 p125 q125; cases e125; (try simp only [show (1 : Int).toNat = 1 from rfl, Nat.reduceMul, Nat.reduceEqDiff, Go.Addr.add, ↓reduceIte] at hx125_0); have qi125 : (1 < t120.length) = True := eq_true (by omega); (try rw [show ((1 : Int)).toNat = 1 from rfl] at hx125_0); replace p125 := eq_true p125; replace q125 := eq_true q125; have p126 : 0 ≤ (2 : Int) := (by omega); have q126 : 2 < (t120.length : Int) := of_decide_eq_true (by first | (with_reducible assumption) | assumption); obtain ⟨ad126, e126, hx126_0⟩ := Kd.at_int (Kd.R_reads' HO124.out).2.2 2 p126 q126; obtain rfl : ad125 = ad126 := (by injection e126); (try simp only [show (2 : Int).toNat = 2 from rfl, Nat.reduceMul, Nat.reduceEqDiff, Go.Addr.add, ↓reduceIte] at hx126_0); have qi126 : (2 < t120.length) = True := eq_true (by omega); (try rw [show ((2 : Int)).toNat = 2 from rfl] at hx126_0); replace p126 := eq_true p126; replace q126 := eq_true q126))
              go_ret
              exact ⟨by first | rfl | (simp [errW_none, errW_some] <;> rfl) | (simp [*, errW_none, errW_some] <;> rfl), by repeat (first | (with_reducible first | exact HB.out | apply below_alloc | apply pw_below_drewN | apply below_drew1) | exact HB.out)⟩
          · rw [if_neg c6] at H
            exact absurd H (by simp)
        · rw [if_neg c5] at H
          have c5b0 : ((rd t120 1) == 40) = false := beq_eq_false_iff_ne.mpr c5
          have c5b1 : ((rd t120 1) != 40) = true := bne_iff_ne.mpr c5
          obtain rfl := Option.some.inj H
          go_enter Try.func7, Try.ntmps7
          go_wp2_with (first | ((with_reducible refine gate_dst (N := 8) rfl ?_); (try (refine gate_guard (by rfl) ?_; dsimp only)); refine Kd.R_lit k36 _ 36 ?hg (N := 8) ?hd (xs := ([(⟨0, 1, 0, 1, 100, 0⟩ : S36), (⟨0, 1, 1, 2, 50, 0⟩ : S36), (⟨0, 3, 3, 1, 40, 0⟩ : S36)] : List (S36))) (inner := [.int .i64 0, .int .i64 1, .int .i64 0, .int .i64 1, .int .i64 100, .int .i64 0, .int .i64 0, .int .i64 1, .int .i64 1, .int .i64 2, .int .i64 50, .int .i64 0, .int .i64 0, .int .i64 3, .int .i64 3, .int .i64 1, .int .i64 40, .int .i64 0]) (ok := fun _ => True) (okp := fun _ => True) ?hr ?hp (fun _ hk => hk) trivial (Below.refl _ _) (Nat.le_refl _) (by simp) ?_; (case hd => rfl); (case hg => rfl); (case hr => first | (go_simp; done) | (go_simp; rfl)); (case hp => exact (Reps.c6 (show Kd.M k36 _ _ _ (⟨0, 1, 0, 1, 100, 0⟩ : S36) [.int .i64 0, .int .i64 1, .int .i64 0, .int .i64 1, .int .i64 100, .int .i64 0] from (k36_mkM _ _ _ (⟨0, 1, 0, 1, 100, 0⟩ : S36) )) (Reps.c6 (show Kd.M k36 _ _ _ (⟨0, 1, 1, 2, 50, 0⟩ : S36) [.int .i64 0, .int .i64 1, .int .i64 1, .int .i64 2, .int .i64 50, .int .i64 0] from (k36_mkM _ _ _ (⟨0, 1, 1, 2, 50, 0⟩ : S36) )) (Reps.c6 (show Kd.M k36 _ _ _ (⟨0, 3, 3, 1, 40, 0⟩ : S36) [.int .i64 0, .int .i64 3, .int .i64 3, .int .i64 1, .int .i64 40, .int .i64 0] from (k36_mkM _ _ _ (⟨0, 3, 3, 1, 40, 0⟩ : S36) )) (Reps.none _ _))))); intro v115 w24 ho25 hb hg_ hnew_; clear hg_ hnew_; (first | rw [← Ny114.out] at ho25 | (simp only [Int.reduceToNat] at ho25; rw [← Ny114.out] at ho25)); have n0_ := Aside0.mk (Kd.R_lower ho25 (below_size (by repeat (first | (with_reducible first | exact HB.out | apply below_alloc | apply pw_below_drewN | apply below_drew1) | exact HB.out)))); have n1_ := Aside0.mk (below_step (by repeat (first | (with_reducible first | exact HB.out | apply below_alloc | apply pw_below_drewN | apply below_drew1) | exact HB.out)) hb); clear HB; have HO116 := n0_; have HB := n1_; clear n0_ n1_; clear hb ho25) | ((with_reducible refine gate_dst (N := 11) rfl ?_); (try (refine gate_guard (by rfl) ?_; dsimp only)); refine Kd.R_lit (Kd.int .i64) _ 2 ?hg (N := 11) ?hd (xs := ([0, 30, 0, 0] : List Int)) (inner := [.int .i64 0, .int .i64 30, .int .i64 0, .int .i64 0]) (ok := fun _ => True) (okp := fun _ => True) ?hr ?hp (fun _ hk => hk) trivial (Below.refl _ _) (Nat.le_refl _) (by simp) ?_; (case hd => rfl); (case hg => rfl); (case hr => first | (go_simp; done) | (go_simp; rfl)); (case hp => exact (Reps.one (show Kd.M (Kd.int .i64) _ _ _ 0 [.int .i64 0] from rfl) (Reps.one (show Kd.M (Kd.int .i64) _ _ _ 30 [.int .i64 30] from rfl) (Reps.one (show Kd.M (Kd.int .i64) _ _ _ 0 [.int .i64 0] from rfl) (Reps.one (show Kd.M (Kd.int .i64) _ _ _ 0 [.int .i64 0] from rfl) (Reps.none _ _)))))); intro v118 w26 ho27 hb hg_ hnew_; clear hg_ hnew_; (first | rw [← Ny117.out] at ho27 | (simp only [Int.reduceToNat] at ho27; rw [← Ny117.out] at ho27)); have n0_ := Aside0.mk (Kd.R_below (by (with_reducible repeat (first | apply Kd.R_alloc | apply Kd.R_drewN | apply Kd.R_drew)); exact HO116.out) hb); have n1_ := Aside0.mk (Kd.R_lower ho27 (below_size (by repeat (first | (with_reducible first | exact HB.out | apply below_alloc | apply pw_below_drewN | apply below_drew1) | exact HB.out)))); have n2_ := Aside0.mk (below_step (by repeat (first | (with_reducible first | exact HB.out | apply below_alloc | apply pw_below_drewN | apply below_drew1) | exact HB.out)) hb); clear HO116; clear HB; have HO116 := n0_; have HO119 := n1_; have HB := n2_; clear n0_ n1_ n2_; clear hb ho27; obtain ⟨Ao28, co28, eo28⟩ := Kd.R_slice HO116.out; subst eo28; obtain ⟨Ao29, co29, eo29⟩ := Kd.R_slice HO119.out; subst eo29) | ((with_reducible refine gate_callee (f := 12) rfl ?_); refine goesL_ (some 12) rfl rfl Try.func12 (by kernel_rfl) rfl #[.slice Ao28 y114.length co28, .slice Ao29 y117.length co29, .int .i64 0] rfl (by (try simp only [List.map_toArray, List.map_cons, List.map_nil]); first | done | rfl | (simp only [List.length_drop, List.length_take]; rfl)) ?_; (with_reducible refine (undervalue_Trace.calls k _ _ y114 _ _ y117 0 t120 t121 t122 _ ?side1 ?side2 ?side3 ?side4 A1.out).mono ?_); (case side1 => repeat (first | exact (Kd.R_reads' HO116.out).2.2 | (with_reducible refine Kd.C_alloc ?_ _) | (with_reducible refine Kd.C_drewN ?_ _) | (with_reducible refine Kd.C_drew ?_))); (case side2 => exact (Kd.R_reads' HO116.out).2.1); (case side3 => repeat (first | exact (Kd.R_reads' HO119.out).2.2 | (with_reducible refine Kd.C_alloc ?_ _) | (with_reducible refine Kd.C_drewN ?_ _) | (with_reducible refine Kd.C_drew ?_))); (case side4 => exact (Kd.R_reads' HO119.out).2.1); rintro e w30 ⟨v123, rfl, ho0, hb⟩; refine ⟨_, rfl, ?_⟩; have n0_ := Aside0.mk (Kd.R_below (by (with_reducible repeat (first | apply Kd.R_alloc | apply Kd.R_drewN | apply Kd.R_drew)); exact HO116.out) hb); have n1_ := Aside0.mk (Kd.R_elder' (by (with_reducible repeat (first | apply Kd.R_alloc | apply Kd.R_drewN | apply Kd.R_drew)); exact HO119.out) (Kd.R_base ho0) hb); have n2_ := Aside0.mk (Kd.R_lower (Kd.R_new' ho0 (Kd.R_lt (by (with_reducible repeat (first | apply Kd.R_alloc | apply Kd.R_drewN | apply Kd.R_drew)); exact HO119.out))) (below_size (by repeat (first | (with_reducible first | exact HB.out | apply below_alloc | apply pw_below_drewN | apply below_drew1) | exact HB.out)))); have n3_ := Aside0.mk (below_step (by repeat (first | (with_reducible first | exact HB.out | apply below_alloc | apply pw_below_drewN | apply below_drew1) | exact HB.out)) hb); clear HO116; clear HO119; clear HB; have HO116 := n0_; have HO119 := n1_; have HO124 := n2_; have HB := n3_; clear n0_ n1_ n2_ n3_; (try clear hb); (try clear hb2); (try clear hk); (try clear hi); (try clear ho0); obtain ⟨Ao31, co31, eo31⟩ := Kd.R_slice HO124.out; subst eo31; have p125 : 0 ≤ (1 : Int) := (by omega); have q125 : 1 < (t120.length : Int) := of_decide_eq_true (by first | (with_reducible assumption) | assumption); obtain ⟨ad125, e125, hx125_0⟩ := Kd.at_int (Kd.R_reads' HO124.out).2.2 1 p125 q125; cases e125; (try simp only [show (1 : Int).toNat = 1 from rfl, Nat.reduceMul, Nat.reduceEqDiff, Go.Addr.add, ↓reduceIte] at hx125_0); have qi125 : (1 < t120.length) = True := eq_true (by omega); (try rw [show ((1 : Int)).toNat = 1 from rfl] at hx125_0); replace p125 := eq_true p125; replace q125 := eq_true q125))
          go_ret
          exact ⟨by first | rfl | (simp [errW_none, errW_some] <;> rfl) | (simp [*, errW_none, errW_some] <;> rfl), by repeat (first | (with_reducible first | exact HB.out | apply below_alloc | apply pw_below_drewN | apply below_drew1) | exact HB.out)⟩
      · rw [if_neg c4] at H
        exact absurd H (by simp)
    · rw [if_neg c3] at H
      have c3b0 : ((t120.length : Int) == 4) = false := beq_eq_false_iff_ne.mpr c3
      have c3b1 : ((t120.length : Int) != 4) = true := bne_iff_ne.mpr c3
      obtain rfl := Option.some.inj H
      go_enter Try.func7, Try.ntmps7
      go_wp2_with (first | ((with_reducible refine gate_dst (N := 8) rfl ?_); (try (refine gate_guard (by rfl) ?_; dsimp only)); refine Kd.R_lit k36 _ 36 ?hg (N := 8) ?hd (xs := ([(⟨0, 1, 0, 1, 100, 0⟩ : S36), (⟨0, 1, 1, 2, 50, 0⟩ : S36), (⟨0, 3, 3, 1, 40, 0⟩ : S36)] : List (S36))) (inner := [.int .i64 0, .int .i64 1, .int .i64 0, .int .i64 1, .int .i64 100, .int .i64 0, .int .i64 0, .int .i64 1, .int .i64 1, .int .i64 2, .int .i64 50, .int .i64 0, .int .i64 0, .int .i64 3, .int .i64 3, .int .i64 1, .int .i64 40, .int .i64 0]) (ok := fun _ => True) (okp := fun _ => True) ?hr ?hp (fun _ hk => hk) trivial (Below.refl _ _) (Nat.le_refl _) (by simp) ?_; (case hd => rfl); (case hg => rfl); (case hr => first | (go_simp; done) | (go_simp; rfl)); (case hp => exact (Reps.c6 (show Kd.M k36 _ _ _ (⟨0, 1, 0, 1, 100, 0⟩ : S36) [.int .i64 0, .int .i64 1, .int .i64 0, .int .i64 1, .int .i64 100, .int .i64 0] from (k36_mkM _ _ _ (⟨0, 1, 0, 1, 100, 0⟩ : S36) )) (Reps.c6 (show Kd.M k36 _ _ _ (⟨0, 1, 1, 2, 50, 0⟩ : S36) [.int .i64 0, .int .i64 1, .int .i64 1, .int .i64 2, .int .i64 50, .int .i64 0] from (k36_mkM _ _ _ (⟨0, 1, 1, 2, 50, 0⟩ : S36) )) (Reps.c6 (show Kd.M k36 _ _ _ (⟨0, 3, 3, 1, 40, 0⟩ : S36) [.int .i64 0, .int .i64 3, .int .i64 3, .int .i64 1, .int .i64 40, .int .i64 0] from (k36_mkM _ _ _ (⟨0, 3, 3, 1, 40, 0⟩ : S36) )) (Reps.none _ _))))); intro v115 w32 ho33 hb hg_ hnew_; clear hg_ hnew_; (first | rw [← Ny114.out] at ho33 | (simp only [Int.reduceToNat] at ho33; rw [← Ny114.out] at ho33)); have n0_ := Aside0.mk (Kd.R_lower ho33 (below_size (by repeat (first | (with_reducible first | exact HB.out | apply below_alloc | apply pw_below_drewN | apply below_drew1) | exact HB.out)))); have n1_ := Aside0.mk (below_step (by repeat (first | (with_reducible first | exact HB.out | apply below_alloc | apply pw_below_drewN | apply below_drew1) | exact HB.out)) hb); clear HB; have HO116 := n0_; have HB := n1_; clear n0_ n1_; clear hb ho33) | ((with_reducible refine gate_dst (N := 11) rfl ?_); (try (refine gate_guard (by rfl) ?_; dsimp only)); refine Kd.R_lit (Kd.int .i64) _ 2 ?hg (N := 11) ?hd (xs := ([0, 30, 0, 0] : List Int)) (inner := [.int .i64 0, .int .i64 30, .int .i64 0, .int .i64 0]) (ok := fun _ => True) (okp := fun _ => True) ?hr ?hp (fun _ hk => hk) trivial (Below.refl _ _) (Nat.le_refl _) (by simp) ?_; (case hd => rfl); (case hg => rfl); (case hr => first | (go_simp; done) | (go_simp; rfl)); (case hp => exact (Reps.one (show Kd.M (Kd.int .i64) _ _ _ 0 [.int .i64 0] from rfl) (Reps.one (show Kd.M (Kd.int .i64) _ _ _ 30 [.int .i64 30] from rfl) (Reps.one (show Kd.M (Kd.int .i64) _ _ _ 0 [.int .i64 0] from rfl) (Reps.one (show Kd.M (Kd.int .i64) _ _ _ 0 [.int .i64 0] from rfl) (Reps.none _ _)))))); intro v118 w34 ho35 hb hg_ hnew_; clear hg_ hnew_; (first | rw [← Ny117.out] at ho35 | (simp only [Int.reduceToNat] at ho35; rw [← Ny117.out] at ho35)); have n0_ := Aside0.mk (Kd.R_below (by (with_reducible repeat (first | apply Kd.R_alloc | apply Kd.R_drewN | apply Kd.R_drew)); exact HO116.out) hb); have n1_ := Aside0.mk (Kd.R_lower ho35 (below_size (by repeat (first | (with_reducible first | exact HB.out | apply below_alloc | apply pw_below_drewN | apply below_drew1) | exact HB.out)))); have n2_ := Aside0.mk (below_step (by repeat (first | (with_reducible first | exact HB.out | apply below_alloc | apply pw_below_drewN | apply below_drew1) | exact HB.out)) hb); clear HO116; clear HB; have HO116 := n0_; have HO119 := n1_; have HB := n2_; clear n0_ n1_ n2_; clear hb ho35; obtain ⟨Ao36, co36, eo36⟩ := Kd.R_slice HO116.out; subst eo36; obtain ⟨Ao37, co37, eo37⟩ := Kd.R_slice HO119.out; subst eo37) | ((with_reducible refine gate_callee (f := 12) rfl ?_); refine goesL_ (some 12) rfl rfl Try.func12 (by kernel_rfl) rfl #[.slice Ao36 y114.length co36, .slice Ao37 y117.length co37, .int .i64 0] rfl (by (try simp only [List.map_toArray, List.map_cons, List.map_nil]); first | done | rfl | (simp only [List.length_drop, List.length_take]; rfl)) ?_; (with_reducible refine (undervalue_Trace.calls k _ _ y114 _ _ y117 0 t120 t121 t122 _ ?side1 ?side2 ?side3 ?side4 A1.out).mono ?_); (case side1 => repeat (first | exact (Kd.R_reads' HO116.out).2.2 | (with_reducible refine Kd.C_alloc ?_ _) | (with_reducible refine Kd.C_drewN ?_ _) | (with_reducible refine Kd.C_drew ?_))); (case side2 => exact (Kd.R_reads' HO116.out).2.1); (case side3 => repeat (first | exact (Kd.R_reads' HO119.out).2.2 | (with_reducible refine Kd.C_alloc ?_ _) | (with_reducible refine Kd.C_drewN ?_ _) | (with_reducible refine Kd.C_drew ?_))); (case side4 => exact (Kd.R_reads' HO119.out).2.1); rintro e w38 ⟨v123, rfl, ho0, hb⟩; refine ⟨_, rfl, ?_⟩; have n0_ := Aside0.mk (Kd.R_below (by (with_reducible repeat (first | apply Kd.R_alloc | apply Kd.R_drewN | apply Kd.R_drew)); exact HO116.out) hb); have n1_ := Aside0.mk (Kd.R_elder' (by (with_reducible repeat (first | apply Kd.R_alloc | apply Kd.R_drewN | apply Kd.R_drew)); exact HO119.out) (Kd.R_base ho0) hb); have n2_ := Aside0.mk (Kd.R_lower (Kd.R_new' ho0 (Kd.R_lt (by (with_reducible repeat (first | apply Kd.R_alloc | apply Kd.R_drewN | apply Kd.R_drew)); exact HO119.out))) (below_size (by repeat (first | (with_reducible first | exact HB.out | apply below_alloc | apply pw_below_drewN | apply below_drew1) | exact HB.out)))); have n3_ := Aside0.mk (below_step (by repeat (first | (with_reducible first | exact HB.out | apply below_alloc | apply pw_below_drewN | apply below_drew1) | exact HB.out)) hb); clear HO116; clear HO119; clear HB; have HO116 := n0_; have HO119 := n1_; have HO124 := n2_; have HB := n3_; clear n0_ n1_ n2_ n3_; (try clear hb); (try clear hb2); (try clear hk); (try clear hi); (try clear ho0); obtain ⟨Ao39, co39, eo39⟩ := Kd.R_slice HO124.out; subst eo39))
      go_ret
      exact ⟨by first | rfl | (simp [errW_none, errW_some] <;> rfl) | (simp [*, errW_none, errW_some] <;> rfl), by repeat (first | (with_reducible first | exact HB.out | apply below_alloc | apply pw_below_drewN | apply below_drew1) | exact HB.out)⟩
  · rw [if_neg c2] at H
    have c2b0 : (t122 == 0) = false := beq_eq_false_iff_ne.mpr c2
    have c2b1 : (t122 != 0) = true := bne_iff_ne.mpr c2
    obtain rfl := Option.some.inj H
    go_enter Try.func7, Try.ntmps7
    go_wp2_with (first | ((with_reducible refine gate_dst (N := 8) rfl ?_); (try (refine gate_guard (by rfl) ?_; dsimp only)); refine Kd.R_lit k36 _ 36 ?hg (N := 8) ?hd (xs := ([(⟨0, 1, 0, 1, 100, 0⟩ : S36), (⟨0, 1, 1, 2, 50, 0⟩ : S36), (⟨0, 3, 3, 1, 40, 0⟩ : S36)] : List (S36))) (inner := [.int .i64 0, .int .i64 1, .int .i64 0, .int .i64 1, .int .i64 100, .int .i64 0, .int .i64 0, .int .i64 1, .int .i64 1, .int .i64 2, .int .i64 50, .int .i64 0, .int .i64 0, .int .i64 3, .int .i64 3, .int .i64 1, .int .i64 40, .int .i64 0]) (ok := fun _ => True) (okp := fun _ => True) ?hr ?hp (fun _ hk => hk) trivial (Below.refl _ _) (Nat.le_refl _) (by simp) ?_; (case hd => rfl); (case hg => rfl); (case hr => first | (go_simp; done) | (go_simp; rfl)); (case hp => exact (Reps.c6 (show Kd.M k36 _ _ _ (⟨0, 1, 0, 1, 100, 0⟩ : S36) [.int .i64 0, .int .i64 1, .int .i64 0, .int .i64 1, .int .i64 100, .int .i64 0] from (k36_mkM _ _ _ (⟨0, 1, 0, 1, 100, 0⟩ : S36) )) (Reps.c6 (show Kd.M k36 _ _ _ (⟨0, 1, 1, 2, 50, 0⟩ : S36) [.int .i64 0, .int .i64 1, .int .i64 1, .int .i64 2, .int .i64 50, .int .i64 0] from (k36_mkM _ _ _ (⟨0, 1, 1, 2, 50, 0⟩ : S36) )) (Reps.c6 (show Kd.M k36 _ _ _ (⟨0, 3, 3, 1, 40, 0⟩ : S36) [.int .i64 0, .int .i64 3, .int .i64 3, .int .i64 1, .int .i64 40, .int .i64 0] from (k36_mkM _ _ _ (⟨0, 3, 3, 1, 40, 0⟩ : S36) )) (Reps.none _ _))))); intro v115 w40 ho41 hb hg_ hnew_; clear hg_ hnew_; (first | rw [← Ny114.out] at ho41 | (simp only [Int.reduceToNat] at ho41; rw [← Ny114.out] at ho41)); have n0_ := Aside0.mk (Kd.R_lower ho41 (below_size (by repeat (first | (with_reducible first | exact HB.out | apply below_alloc | apply pw_below_drewN | apply below_drew1) | exact HB.out)))); have n1_ := Aside0.mk (below_step (by repeat (first | (with_reducible first | exact HB.out | apply below_alloc | apply pw_below_drewN | apply below_drew1) | exact HB.out)) hb); clear HB; have HO116 := n0_; have HB := n1_; clear n0_ n1_; clear hb ho41) | ((with_reducible refine gate_dst (N := 11) rfl ?_); (try (refine gate_guard (by rfl) ?_; dsimp only)); refine Kd.R_lit (Kd.int .i64) _ 2 ?hg (N := 11) ?hd (xs := ([0, 30, 0, 0] : List Int)) (inner := [.int .i64 0, .int .i64 30, .int .i64 0, .int .i64 0]) (ok := fun _ => True) (okp := fun _ => True) ?hr ?hp (fun _ hk => hk) trivial (Below.refl _ _) (Nat.le_refl _) (by simp) ?_; (case hd => rfl); (case hg => rfl); (case hr => first | (go_simp; done) | (go_simp; rfl)); (case hp => exact (Reps.one (show Kd.M (Kd.int .i64) _ _ _ 0 [.int .i64 0] from rfl) (Reps.one (show Kd.M (Kd.int .i64) _ _ _ 30 [.int .i64 30] from rfl) (Reps.one (show Kd.M (Kd.int .i64) _ _ _ 0 [.int .i64 0] from rfl) (Reps.one (show Kd.M (Kd.int .i64) _ _ _ 0 [.int .i64 0] from rfl) (Reps.none _ _)))))); intro v118 w42 ho43 hb hg_ hnew_; clear hg_ hnew_; (first | rw [← Ny117.out] at ho43 | (simp only [Int.reduceToNat] at ho43; rw [← Ny117.out] at ho43)); have n0_ := Aside0.mk (Kd.R_below (by (with_reducible repeat (first | apply Kd.R_alloc | apply Kd.R_drewN | apply Kd.R_drew)); exact HO116.out) hb); have n1_ := Aside0.mk (Kd.R_lower ho43 (below_size (by repeat (first | (with_reducible first | exact HB.out | apply below_alloc | apply pw_below_drewN | apply below_drew1) | exact HB.out)))); have n2_ := Aside0.mk (below_step (by repeat (first | (with_reducible first | exact HB.out | apply below_alloc | apply pw_below_drewN | apply below_drew1) | exact HB.out)) hb); clear HO116; clear HB; have HO116 := n0_; have HO119 := n1_; have HB := n2_; clear n0_ n1_ n2_; clear hb ho43; obtain ⟨Ao44, co44, eo44⟩ := Kd.R_slice HO116.out; subst eo44; obtain ⟨Ao45, co45, eo45⟩ := Kd.R_slice HO119.out; subst eo45) | ((with_reducible refine gate_callee (f := 12) rfl ?_); refine goesL_ (some 12) rfl rfl Try.func12 (by kernel_rfl) rfl #[.slice Ao44 y114.length co44, .slice Ao45 y117.length co45, .int .i64 0] rfl (by (try simp only [List.map_toArray, List.map_cons, List.map_nil]); first | done | rfl | (simp only [List.length_drop, List.length_take]; rfl)) ?_; (with_reducible refine (undervalue_Trace.calls k _ _ y114 _ _ y117 0 t120 t121 t122 _ ?side1 ?side2 ?side3 ?side4 A1.out).mono ?_); (case side1 => repeat (first | exact (Kd.R_reads' HO116.out).2.2 | (with_reducible refine Kd.C_alloc ?_ _) | (with_reducible refine Kd.C_drewN ?_ _) | (with_reducible refine Kd.C_drew ?_))); (case side2 => exact (Kd.R_reads' HO116.out).2.1); (case side3 => repeat (first | exact (Kd.R_reads' HO119.out).2.2 | (with_reducible refine Kd.C_alloc ?_ _) | (with_reducible refine Kd.C_drewN ?_ _) | (with_reducible refine Kd.C_drew ?_))); (case side4 => exact (Kd.R_reads' HO119.out).2.1); rintro e w46 ⟨v123, rfl, ho0, hb⟩; refine ⟨_, rfl, ?_⟩; have n0_ := Aside0.mk (Kd.R_below (by (with_reducible repeat (first | apply Kd.R_alloc | apply Kd.R_drewN | apply Kd.R_drew)); exact HO116.out) hb); have n1_ := Aside0.mk (Kd.R_elder' (by (with_reducible repeat (first | apply Kd.R_alloc | apply Kd.R_drewN | apply Kd.R_drew)); exact HO119.out) (Kd.R_base ho0) hb); have n2_ := Aside0.mk (Kd.R_lower (Kd.R_new' ho0 (Kd.R_lt (by (with_reducible repeat (first | apply Kd.R_alloc | apply Kd.R_drewN | apply Kd.R_drew)); exact HO119.out))) (below_size (by repeat (first | (with_reducible first | exact HB.out | apply below_alloc | apply pw_below_drewN | apply below_drew1) | exact HB.out)))); have n3_ := Aside0.mk (below_step (by repeat (first | (with_reducible first | exact HB.out | apply below_alloc | apply pw_below_drewN | apply below_drew1) | exact HB.out)) hb); clear HO116; clear HO119; clear HB; have HO116 := n0_; have HO119 := n1_; have HO124 := n2_; have HB := n3_; clear n0_ n1_ n2_ n3_; (try clear hb); (try clear hb2); (try clear hk); (try clear hi); (try clear ho0)))
    go_ret
    exact ⟨by first | rfl | (simp [errW_none, errW_some] <;> rfl) | (simp [*, errW_none, errW_some] <;> rfl), by repeat (first | (with_reducible first | exact HB.out | apply below_alloc | apply pw_below_drewN | apply below_drew1) | exact HB.out)⟩

/-! ### insolvencylaw0_Rows: function 8 -/
mutual
def insolvencylaw0_Rows.j4 : Nat → List (S36) → Option ((List (S36)))
  | 0, _ => none
  | k + 1, x7 => some x7
def insolvencylaw0_Rows.l0 : Nat → Int → Int → List (S36) → Int → List (S43) → Int → Int → Option ((List (S36)))
  | 0, _, _, _, _, _, _, _ => none
  | k + 1, x1, x2, x7, x8, x14, x15, x16 => if x16 < x15 then (if 0 ≤ x16 then (if x16 < (x14.length : Int) then (if (x7.length : Int) ≥ x2 then (insolvencylaw0_Rows.j1 k x1 x2 x7 x8 x14 x15 x16 true ((rd_T43 x14 x16).f0) ((rd_T43 x14 x16).f1) ((rd_T43 x14 x16).f2) ((rd_T43 x14 x16).f3) ((rd_T43 x14 x16).f4)) else (insolvencylaw0_Rows.j1 k x1 x2 x7 x8 x14 x15 x16 (decide (x1 < 2)) ((rd_T43 x14 x16).f0) ((rd_T43 x14 x16).f1) ((rd_T43 x14 x16).f2) ((rd_T43 x14 x16).f3) ((rd_T43 x14 x16).f4))) else (none)) else (none)) else (insolvencylaw0_Rows.j4 k x7)
def insolvencylaw0_Rows.j1 : Nat → Int → Int → List (S36) → Int → List (S43) → Int → Int → Bool → Int → Int → Int → Int → Int → Option ((List (S36)))
  | 0, _, _, _, _, _, _, _, _, _, _, _, _, _ => none
  | k + 1, x1, x2, x7, x8, x14, x15, x16, x27, x129000, x129001, x129002, x129003, x129004 => if x27 = true then (insolvencylaw0_Rows.j4 k x7) else (if x1 = 0 then (none) else (if (wrap64 (x1 - 1)) = 0 then (none) else (if (Int.tmod (wrap64 (x129003)) (wrap64 (x1 - 1))) ≥ (Int.tmod (wrap64 (x129002)) x1) then (insolvencylaw0_Rows.j2 k x1 x2 x7 (wrap64 (x8 + (wrap64 (Int.tmod x129000 6)))) (Int.tmod (wrap64 (x129002)) x1) (wrap64 ((Int.tmod (wrap64 (x129003)) (wrap64 (x1 - 1))) + 1)) x14 x15 x16 x129000 x129001 x129002 x129003 x129004) else (insolvencylaw0_Rows.j2 k x1 x2 x7 (wrap64 (x8 + (wrap64 (Int.tmod x129000 6)))) (Int.tmod (wrap64 (x129002)) x1) (Int.tmod (wrap64 (x129003)) (wrap64 (x1 - 1))) x14 x15 x16 x129000 x129001 x129002 x129003 x129004))))
def insolvencylaw0_Rows.j2 : Nat → Int → Int → List (S36) → Int → Int → Int → List (S43) → Int → Int → Int → Int → Int → Int → Int → Option ((List (S36)))
  | 0, _, _, _, _, _, _, _, _, _, _, _, _, _, _ => none
  | k + 1, x1, x2, x7, x8, x11, x12, x14, x15, x16, x129000, x129001, x129002, x129003, x129004 => if (wrap64 (1 + (wrap64 (Int.tmod x129001 3)))) = 3 then (insolvencylaw0_Rows.j3 k x1 x2 x7 x8 x14 x15 x16 x8 (wrap64 (1 + (wrap64 (Int.tmod x129001 3)))) x11 x12 (wrap64 (Int.tmod x129004 40)) (wrap64 (Int.tmod (IntKind.u16.wrap (Int.tdiv x129004 40)) 60))) else (insolvencylaw0_Rows.j3 k x1 x2 x7 x8 x14 x15 x16 x8 (wrap64 (1 + (wrap64 (Int.tmod x129001 3)))) x11 x12 (wrap64 (Int.tmod x129004 40)) 0)
def insolvencylaw0_Rows.j3 : Nat → Int → Int → List (S36) → Int → List (S43) → Int → Int → Int → Int → Int → Int → Int → Int → Option ((List (S36)))
  | 0, _, _, _, _, _, _, _, _, _, _, _, _, _ => none
  | k + 1, x1, x2, x7, x8, x14, x15, x16, x130000, x130001, x130002, x130003, x130004, x130005 => if x7.length < 2932031007402 then (insolvencylaw0_Rows.l0 k x1 x2 (x7 ++ [(⟨x130000, x130001, x130002, x130003, x130004, x130005⟩ : S36)]) x8 x14 x15 (wrap64 (x16 + 1))) else (none)
end
def insolvencylaw0_Rows.f (k : Nat) (l0 : List (S43)) (a1 : Int) (a2 : Int) : Option ((List (S36))) := insolvencylaw0_Rows.l0 k a1 a2 ([] : List (S36)) 0 l0 (l0.length : Int) 0
theorem insolvencylaw0_Rows.mono_l : ∀ k, (∀ y0, LeO (insolvencylaw0_Rows.j4 k y0) (insolvencylaw0_Rows.j4 (k + 1) y0)) ∧ (∀ y0 y1 y2 y3 y4 y5 y6, LeO (insolvencylaw0_Rows.l0 k y0 y1 y2 y3 y4 y5 y6) (insolvencylaw0_Rows.l0 (k + 1) y0 y1 y2 y3 y4 y5 y6)) ∧ (∀ y0 y1 y2 y3 y4 y5 y6 y7 y8 y9 y10 y11 y12, LeO (insolvencylaw0_Rows.j1 k y0 y1 y2 y3 y4 y5 y6 y7 y8 y9 y10 y11 y12) (insolvencylaw0_Rows.j1 (k + 1) y0 y1 y2 y3 y4 y5 y6 y7 y8 y9 y10 y11 y12)) ∧ (∀ y0 y1 y2 y3 y4 y5 y6 y7 y8 y9 y10 y11 y12 y13, LeO (insolvencylaw0_Rows.j2 k y0 y1 y2 y3 y4 y5 y6 y7 y8 y9 y10 y11 y12 y13) (insolvencylaw0_Rows.j2 (k + 1) y0 y1 y2 y3 y4 y5 y6 y7 y8 y9 y10 y11 y12 y13)) ∧ (∀ y0 y1 y2 y3 y4 y5 y6 y7 y8 y9 y10 y11 y12, LeO (insolvencylaw0_Rows.j3 k y0 y1 y2 y3 y4 y5 y6 y7 y8 y9 y10 y11 y12) (insolvencylaw0_Rows.j3 (k + 1) y0 y1 y2 y3 y4 y5 y6 y7 y8 y9 y10 y11 y12))
  | 0 => ⟨fun _ r h => by simp [insolvencylaw0_Rows.j4] at h, fun _ _ _ _ _ _ _ r h => by simp [insolvencylaw0_Rows.l0] at h, fun _ _ _ _ _ _ _ _ _ _ _ _ _ r h => by simp [insolvencylaw0_Rows.j1] at h, fun _ _ _ _ _ _ _ _ _ _ _ _ _ _ r h => by simp [insolvencylaw0_Rows.j2] at h, fun _ _ _ _ _ _ _ _ _ _ _ _ _ r h => by simp [insolvencylaw0_Rows.j3] at h⟩
  | k + 1 => by
    obtain ⟨ih0, ih1, ih2, ih3, ih4⟩ := insolvencylaw0_Rows.mono_l k
    refine ⟨?_, ?_, ?_, ?_, ?_⟩
    · intro y0
      unfold insolvencylaw0_Rows.j4
      repeat' first
      | (with_reducible exact ih0 _)
      | (with_reducible exact ih1 _ _ _ _ _ _ _)
      | (with_reducible exact ih2 _ _ _ _ _ _ _ _ _ _ _ _ _)
      | (with_reducible exact ih3 _ _ _ _ _ _ _ _ _ _ _ _ _ _)
      | (with_reducible exact ih4 _ _ _ _ _ _ _ _ _ _ _ _ _)
      | (with_reducible exact LeO.refl _)
      | (with_reducible exact LeO.none _)
      | (with_reducible refine LeO.ite ?_ ?_)
      | (with_reducible refine LeO.bind ?_ (fun _ => ?_))
      | exact ih0 _
      | exact ih1 _ _ _ _ _ _ _
      | exact ih2 _ _ _ _ _ _ _ _ _ _ _ _ _
      | exact ih3 _ _ _ _ _ _ _ _ _ _ _ _ _ _
      | exact ih4 _ _ _ _ _ _ _ _ _ _ _ _ _
      | exact LeO.none _
      | refine LeO.ite ?_ ?_
      | refine LeO.bind ?_ (fun _ => ?_)
    · intro y0 y1 y2 y3 y4 y5 y6
      unfold insolvencylaw0_Rows.l0
      repeat' first
      | (with_reducible exact ih0 _)
      | (with_reducible exact ih1 _ _ _ _ _ _ _)
      | (with_reducible exact ih2 _ _ _ _ _ _ _ _ _ _ _ _ _)
      | (with_reducible exact ih3 _ _ _ _ _ _ _ _ _ _ _ _ _ _)
      | (with_reducible exact ih4 _ _ _ _ _ _ _ _ _ _ _ _ _)
      | (with_reducible exact LeO.refl _)
      | (with_reducible exact LeO.none _)
      | (with_reducible refine LeO.ite ?_ ?_)
      | (with_reducible refine LeO.bind ?_ (fun _ => ?_))
      | exact ih0 _
      | exact ih1 _ _ _ _ _ _ _
      | exact ih2 _ _ _ _ _ _ _ _ _ _ _ _ _
      | exact ih3 _ _ _ _ _ _ _ _ _ _ _ _ _ _
      | exact ih4 _ _ _ _ _ _ _ _ _ _ _ _ _
      | exact LeO.none _
      | refine LeO.ite ?_ ?_
      | refine LeO.bind ?_ (fun _ => ?_)
    · intro y0 y1 y2 y3 y4 y5 y6 y7 y8 y9 y10 y11 y12
      unfold insolvencylaw0_Rows.j1
      repeat' first
      | (with_reducible exact ih0 _)
      | (with_reducible exact ih1 _ _ _ _ _ _ _)
      | (with_reducible exact ih2 _ _ _ _ _ _ _ _ _ _ _ _ _)
      | (with_reducible exact ih3 _ _ _ _ _ _ _ _ _ _ _ _ _ _)
      | (with_reducible exact ih4 _ _ _ _ _ _ _ _ _ _ _ _ _)
      | (with_reducible exact LeO.refl _)
      | (with_reducible exact LeO.none _)
      | (with_reducible refine LeO.ite ?_ ?_)
      | (with_reducible refine LeO.bind ?_ (fun _ => ?_))
      | exact ih0 _
      | exact ih1 _ _ _ _ _ _ _
      | exact ih2 _ _ _ _ _ _ _ _ _ _ _ _ _
      | exact ih3 _ _ _ _ _ _ _ _ _ _ _ _ _ _
      | exact ih4 _ _ _ _ _ _ _ _ _ _ _ _ _
      | exact LeO.none _
      | refine LeO.ite ?_ ?_
      | refine LeO.bind ?_ (fun _ => ?_)
    · intro y0 y1 y2 y3 y4 y5 y6 y7 y8 y9 y10 y11 y12 y13
      unfold insolvencylaw0_Rows.j2
      repeat' first
      | (with_reducible exact ih0 _)
      | (with_reducible exact ih1 _ _ _ _ _ _ _)
      | (with_reducible exact ih2 _ _ _ _ _ _ _ _ _ _ _ _ _)
      | (with_reducible exact ih3 _ _ _ _ _ _ _ _ _ _ _ _ _ _)
      | (with_reducible exact ih4 _ _ _ _ _ _ _ _ _ _ _ _ _)
      | (with_reducible exact LeO.refl _)
      | (with_reducible exact LeO.none _)
      | (with_reducible refine LeO.ite ?_ ?_)
      | (with_reducible refine LeO.bind ?_ (fun _ => ?_))
      | exact ih0 _
      | exact ih1 _ _ _ _ _ _ _
      | exact ih2 _ _ _ _ _ _ _ _ _ _ _ _ _
      | exact ih3 _ _ _ _ _ _ _ _ _ _ _ _ _ _
      | exact ih4 _ _ _ _ _ _ _ _ _ _ _ _ _
      | exact LeO.none _
      | refine LeO.ite ?_ ?_
      | refine LeO.bind ?_ (fun _ => ?_)
    · intro y0 y1 y2 y3 y4 y5 y6 y7 y8 y9 y10 y11 y12
      unfold insolvencylaw0_Rows.j3
      repeat' first
      | (with_reducible exact ih0 _)
      | (with_reducible exact ih1 _ _ _ _ _ _ _)
      | (with_reducible exact ih2 _ _ _ _ _ _ _ _ _ _ _ _ _)
      | (with_reducible exact ih3 _ _ _ _ _ _ _ _ _ _ _ _ _ _)
      | (with_reducible exact ih4 _ _ _ _ _ _ _ _ _ _ _ _ _)
      | (with_reducible exact LeO.refl _)
      | (with_reducible exact LeO.none _)
      | (with_reducible refine LeO.ite ?_ ?_)
      | (with_reducible refine LeO.bind ?_ (fun _ => ?_))
      | exact ih0 _
      | exact ih1 _ _ _ _ _ _ _
      | exact ih2 _ _ _ _ _ _ _ _ _ _ _ _ _
      | exact ih3 _ _ _ _ _ _ _ _ _ _ _ _ _ _
      | exact ih4 _ _ _ _ _ _ _ _ _ _ _ _ _
      | exact LeO.none _
      | refine LeO.ite ?_ ?_
      | refine LeO.bind ?_ (fun _ => ?_)
theorem insolvencylaw0_Rows.mono : ∀ a0 a1 a2 k, LeO (insolvencylaw0_Rows.f k a0 a1 a2) (insolvencylaw0_Rows.f (k + 1) a0 a1 a2) := by
  intro a0 a1 a2 k
  obtain ⟨ih0, ih1, ih2, ih3, ih4⟩ := insolvencylaw0_Rows.mono_l k
  unfold insolvencylaw0_Rows.f
  repeat' first
      | (with_reducible exact ih0 _)
      | (with_reducible exact ih1 _ _ _ _ _ _ _)
      | (with_reducible exact ih2 _ _ _ _ _ _ _ _ _ _ _ _ _)
      | (with_reducible exact ih3 _ _ _ _ _ _ _ _ _ _ _ _ _ _)
      | (with_reducible exact ih4 _ _ _ _ _ _ _ _ _ _ _ _ _)
      | (with_reducible exact LeO.refl _)
      | (with_reducible exact LeO.none _)
      | (with_reducible refine LeO.ite ?_ ?_)
      | (with_reducible refine LeO.bind ?_ (fun _ => ?_))
      | exact ih0 _
      | exact ih1 _ _ _ _ _ _ _
      | exact ih2 _ _ _ _ _ _ _ _ _ _ _ _ _
      | exact ih3 _ _ _ _ _ _ _ _ _ _ _ _ _ _
      | exact ih4 _ _ _ _ _ _ _ _ _ _ _ _ _
      | exact LeO.none _
      | refine LeO.ite ?_ ?_
      | refine LeO.bind ?_ (fun _ => ?_)
set_option maxHeartbeats 8000000 in
set_option maxRecDepth 100000 in
theorem insolvencylaw0_Rows.calls (k : Nat) (A0 : Option Addr) (c0 : Nat) (l0 : List (S43)) (a1 : Int) (a2 : Int) (r : List (S36)) (w : World) (hr0 : Kd.C k43 w A0 l0.length l0) (hc0 : l0.length ≤ c0) (h : insolvencylaw0_Rows.f k l0 a1 a2 = some r) :
    Calls Try.prog 8 #[.slice A0 l0.length c0, .int .i64 a1, .int .i64 a2] w fun e w' => ∃ v0_ : Value, e = .returned (v0_) ∧ Kd.R k36 36 w' w.heap.size (fun _ => True) v0_ r ∧ Below w.heap.size w w' := by
  have hu43 := Try.underlying43
  have hu36 := Try.underlying36
  have HR0 := Aside0.mk hr0
  have HC0 := Aside0.mk hc0
  clear hr0 hc0
  have HB := Aside0.mk (Below.refl w.heap.size w)
  have H : (insolvencylaw0_Rows.l0 k a1 a2 ([] : List (S36)) 0 l0 (l0.length : Int) 0) = some r := h
  clear h
  have HC4 := Aside0.mk H
  clear H
  go_enter Try.func8, Try.ntmps8
  go_upto_block 0 with (fail)
  go_cut [7] (fun v7 wc => ∃ (kq : Nat) (x7_3 : List (S36)), Aside0 (insolvencylaw0_Rows.j4 kq x7_3 = some r) ∧ Aside0 (kq ≤ k) ∧ Aside0 (Kd.R k36 36 wc w.heap.size (fun _ => True) v7 x7_3) ∧ Aside0 (Below w.heap.size w wc))
  case first =>
    have H := HC4.out
    clear HC4
    have H' := Aside0.mk H
    clear H
    go_wp2
    go_loopg [7, 8, 16] k (fun kq v7 v8 v16 w' => ∃ (x7_1 : List (S36)) (x8_1 : Int) (x16_1 : Int), v8 = .int .i64 x8_1 ∧ v16 = .int .i64 x16_1 ∧ Aside0 (insolvencylaw0_Rows.l0 kq a1 a2 x7_1 x8_1 l0 (l0.length : Int) x16_1 = some r) ∧ Aside0 (kq ≤ k) ∧ Aside0 (Kd.R k36 36 w' w.heap.size (fun _ => True) v7 x7_1) ∧ Aside0 (Below w.heap.size w w'))
    case atStart => exact ⟨(([] : List (S36))), (0), (0), (by first | rfl | (simp; done) | (simp [*]; done)), (by first | rfl | (simp; done) | (simp [*]; done)), H', ⟨Nat.le_refl _⟩, ⟨by first | exact Kd.R_nil _ _ _ _ _ | exact Kd.N_nil _ _ _ _ _ | exact Kd.V_nil _ _ _ _ _ | exact Kd.Q_nil _ _ _ _ _ | exact Kd.S_nil _ _ _ _ _⟩, ⟨by repeat (first | (with_reducible first | exact HB.out | apply below_alloc | apply pw_below_drewN | apply below_drew1) | exact HB.out)⟩⟩
    case round =>
      clear H'
      try clear p2
      obtain ⟨x7_1, x8_1, x16_1, rfl, rfl, HA, HK1, HO_7, HB⟩ := hrel
      cases gk with
      | zero => exact absurd HA.out (by simp [insolvencylaw0_Rows.l0])
      | succ k1 =>
        have H := HA.out
        clear HA
        simp only [insolvencylaw0_Rows.l0] at H
        by_cases c5 : x16_1 < (l0.length : Int)
        · rw [if_pos c5] at H
          have c5b0 : decide (x16_1 < (l0.length : Int)) = true := decide_eq_true c5
          clear c5
          (first | rw [c5b0] | (simp only [i64_w, i32_w]; rw [c5b0]) | rw [c5b1] | skip)
          by_cases c6 : 0 ≤ x16_1
          · rw [if_pos c6] at H
            have c6b0 : decide (0 ≤ x16_1) = true := decide_eq_true c6
            clear c6
            by_cases c7 : x16_1 < (l0.length : Int)
            · rw [if_pos c7] at H
              have c7b0 : decide (x16_1 < (l0.length : Int)) = true := decide_eq_true c7
              clear c7
              have HC8 := Aside0.mk H
              clear H
              have p127 : 0 ≤ (x16_1 : Int) := of_decide_eq_true (by first | (with_reducible assumption) | assumption)
              have q127 : x16_1 < (l0.length : Int) := of_decide_eq_true (by first | (with_reducible assumption) | assumption)
              obtain ⟨ad127, e127, hx127_0, hx127_1, hx127_2, hx127_3, hx127_4⟩ := at_T43 HR0.out x16_1 p127 q127
              cases e127
              replace hx127_0 := (HB.out.cell (World.block_lt_of_cell? w _ hx127_0)).trans hx127_0
              replace hx127_1 := (HB.out.cell (World.block_lt_of_cell? w _ hx127_1)).trans hx127_1
              replace hx127_2 := (HB.out.cell (World.block_lt_of_cell? w _ hx127_2)).trans hx127_2
              replace hx127_3 := (HB.out.cell (World.block_lt_of_cell? w _ hx127_3)).trans hx127_3
              replace hx127_4 := (HB.out.cell (World.block_lt_of_cell? w _ hx127_4)).trans hx127_4
              replace p127 := eq_true p127
              replace q127 := eq_true q127
              go_upto_region 6 with (first | ((with_reducible refine gate_dst (N := 10) rfl ?_); refine box_event ?hg (N := 10) ?hd (cs := #[.int .u16 0, .int .u16 0, .int .u16 0, .int .u16 0, .int .u16 0]) (t := 43) ?hr ?_; (case hd => rfl); (case hg => rfl); (case hr => first | (go_simp; done) | (go_simp; rfl)); intro gb128 hg w9 hbox hb; have n0_ := Aside0.mk (Kd.R_below (by (with_reducible repeat (first | apply Kd.R_alloc | apply Kd.R_drewN | apply Kd.R_drew)); exact HO_7.out) hb); have n1_ := Aside0.mk (below_step (by repeat (first | (with_reducible first | exact HB.out | apply below_alloc | apply pw_below_drewN | apply below_drew1) | exact HB.out)) hb); have n2_ := Aside0.mk (hbox); have n3_ := Aside0.mk ((by rw [hg]; exact (below_size (by repeat (first | (with_reducible first | exact HB.out | apply below_alloc | apply pw_below_drewN | apply below_drew1) | exact HB.out))) : w.heap.size ≤ gb128)); have n4_ := Aside0.mk ((by rw [hg]; exact (below_size (by repeat (first | (with_reducible first | exact HB.out | apply below_alloc | apply pw_below_drewN | apply below_drew1) | exact HB.out))) : w.heap.size ≤ gb128)); clear HO_7; clear HB; have HO_7 := n0_; have HB := n1_; have BK128 := n2_; have GW128 := n3_; have GE128 := n4_; clear n0_ n1_ n2_ n3_ n4_; clear hb hbox hg; have hcz10_0 : w9.cell? ⟨gb128, 0, none⟩ = some (.int .u16 0) := (blk_cell BK128.out 0).trans rfl; have hcz10_1 : w9.cell? ⟨gb128, 1, none⟩ = some (.int .u16 0) := (blk_cell BK128.out 1).trans rfl; have hcz10_2 : w9.cell? ⟨gb128, 2, none⟩ = some (.int .u16 0) := (blk_cell BK128.out 2).trans rfl; have hcz10_3 : w9.cell? ⟨gb128, 3, none⟩ = some (.int .u16 0) := (blk_cell BK128.out 3).trans rfl; have hcz10_4 : w9.cell? ⟨gb128, 4, none⟩ = some (.int .u16 0) := (blk_cell BK128.out 4).trans rfl; have hfz10_0 := blk_frozen BK128.out 0; have hfz10_1 := blk_frozen BK128.out 1; have hfz10_2 := blk_frozen BK128.out 2; have hfz10_3 := blk_frozen BK128.out 3; have hfz10_4 := blk_frozen BK128.out 4))
              (try simp only [Act.put, List.setIfInBounds_toArray, List.set_cons_zero, List.set_cons_succ])
              go_cut [27] (fun v27 wc => ∃ (kq : Nat) (x27_7 : Bool), v27 = .bool x27_7 ∧ Aside0 (insolvencylaw0_Rows.j1 kq a1 a2 x7_1 x8_1 l0 (l0.length : Int) x16_1 x27_7 ((rd_T43 l0 x16_1).f0) ((rd_T43 l0 x16_1).f1) ((rd_T43 l0 x16_1).f2) ((rd_T43 l0 x16_1).f3) ((rd_T43 l0 x16_1).f4) = some r) ∧ Aside0 (kq ≤ k1) ∧ Aside0 (Kd.R k36 36 wc w.heap.size (fun _ => True) u7 x7_1) ∧ Aside0 (wc.heap[gb128]? = some (.cells #[.int .u16 ((rd_T43 l0 x16_1).f0), .int .u16 ((rd_T43 l0 x16_1).f1), .int .u16 ((rd_T43 l0 x16_1).f2), .int .u16 ((rd_T43 l0 x16_1).f3), .int .u16 ((rd_T43 l0 x16_1).f4)] 43 (0, 0))) ∧ Aside0 (Below w.heap.size w wc))
              case first =>
                have H := HC8.out
                clear HC8
                by_cases c11 : (x7_1.length : Int) ≥ a2
                · rw [if_pos c11] at H
                  have c11b0 : decide (a2 ≤ (x7_1.length : Int)) = true := decide_eq_true c11
                  clear c11
                  (first | rw [c11b0] | (simp only [i64_w, i32_w]; rw [c11b0]) | rw [c11b1] | skip)
                  have H' := Aside0.mk H
                  clear H
                  obtain ⟨Ao12, co12, eo12⟩ := Kd.R_slice HO_7.out
                  subst eo12
                  go_wp2
                  go_meet
                  case rel => exact ⟨_, (true), (by first | rfl | (simp; done) | (simp [*]; done)), H', ⟨by have := HK1.out; first | omega | exact Nat.le_refl _⟩, ⟨by (with_reducible repeat (first | apply Kd.R_alloc | apply Kd.R_drewN | apply Kd.R_drew)); exact Kd.R_mono (Kd.R_far (p := ⟨gb128, 4, none⟩) (Kd.R_far (p := ⟨gb128, 3, none⟩) (Kd.R_far (p := ⟨gb128, 2, none⟩) (Kd.R_far (p := ⟨gb128, 1, none⟩) (Kd.R_far (p := ⟨gb128, 0, none⟩) (Kd.R_types HO_7.out BK128.out (by decide)) (fun _ hk => hk.2) (.int .u16 ((rd_T43 l0 x16_1).f0))) (fun _ hk => hk.2) (.int .u16 ((rd_T43 l0 x16_1).f1))) (fun _ hk => hk.2) (.int .u16 ((rd_T43 l0 x16_1).f2))) (fun _ hk => hk.2) (.int .u16 ((rd_T43 l0 x16_1).f3))) (fun _ hk => hk.2) (.int .u16 ((rd_T43 l0 x16_1).f4))) (fun _ hk => trivial)⟩, ⟨by (with_reducible repeat (first | refine blk_drewN ?_ _ | refine blk_drew ?_ | refine blk_alloc ?_ _)); refine blk_put (cs := #[.int .u16 ((rd_T43 l0 x16_1).f0), .int .u16 ((rd_T43 l0 x16_1).f1), .int .u16 ((rd_T43 l0 x16_1).f2), .int .u16 ((rd_T43 l0 x16_1).f3), .int .u16 0]) ?_ 4 _ rfl; (with_reducible repeat (first | refine blk_drewN ?_ _ | refine blk_drew ?_ | refine blk_alloc ?_ _)); refine blk_put (cs := #[.int .u16 ((rd_T43 l0 x16_1).f0), .int .u16 ((rd_T43 l0 x16_1).f1), .int .u16 ((rd_T43 l0 x16_1).f2), .int .u16 0, .int .u16 0]) ?_ 3 _ rfl; (with_reducible repeat (first | refine blk_drewN ?_ _ | refine blk_drew ?_ | refine blk_alloc ?_ _)); refine blk_put (cs := #[.int .u16 ((rd_T43 l0 x16_1).f0), .int .u16 ((rd_T43 l0 x16_1).f1), .int .u16 0, .int .u16 0, .int .u16 0]) ?_ 2 _ rfl; (with_reducible repeat (first | refine blk_drewN ?_ _ | refine blk_drew ?_ | refine blk_alloc ?_ _)); refine blk_put (cs := #[.int .u16 ((rd_T43 l0 x16_1).f0), .int .u16 0, .int .u16 0, .int .u16 0, .int .u16 0]) ?_ 1 _ rfl; (with_reducible repeat (first | refine blk_drewN ?_ _ | refine blk_drew ?_ | refine blk_alloc ?_ _)); refine blk_put (cs := #[.int .u16 0, .int .u16 0, .int .u16 0, .int .u16 0, .int .u16 0]) ?_ 0 _ rfl; (with_reducible repeat (first | refine blk_drewN ?_ _ | refine blk_drew ?_ | refine blk_alloc ?_ _)); exact BK128.out⟩, ⟨by repeat (first | (with_reducible first | exact HB.out | apply below_alloc | apply pw_below_drewN | apply below_drew1 | refine below_set ?_ GE128.out) | exact HB.out)⟩⟩
                · rw [if_neg c11] at H
                  have c11b0 : decide (a2 ≤ (x7_1.length : Int)) = false := decide_eq_false c11
                  clear c11
                  (first | rw [c11b0] | (simp only [i64_w, i32_w]; rw [c11b0]) | rw [c11b1] | skip)
                  have H' := Aside0.mk H
                  clear H
                  obtain ⟨Ao13, co13, eo13⟩ := Kd.R_slice HO_7.out
                  subst eo13
                  go_wp2
                  go_meet
                  case rel => exact ⟨_, (decide (a1 < 2)), (by first | rfl | (simp; done) | (simp [*]; done)), H', ⟨by have := HK1.out; first | omega | exact Nat.le_refl _⟩, ⟨by (with_reducible repeat (first | apply Kd.R_alloc | apply Kd.R_drewN | apply Kd.R_drew)); exact Kd.R_mono (Kd.R_far (p := ⟨gb128, 4, none⟩) (Kd.R_far (p := ⟨gb128, 3, none⟩) (Kd.R_far (p := ⟨gb128, 2, none⟩) (Kd.R_far (p := ⟨gb128, 1, none⟩) (Kd.R_far (p := ⟨gb128, 0, none⟩) (Kd.R_types HO_7.out BK128.out (by decide)) (fun _ hk => hk.2) (.int .u16 ((rd_T43 l0 x16_1).f0))) (fun _ hk => hk.2) (.int .u16 ((rd_T43 l0 x16_1).f1))) (fun _ hk => hk.2) (.int .u16 ((rd_T43 l0 x16_1).f2))) (fun _ hk => hk.2) (.int .u16 ((rd_T43 l0 x16_1).f3))) (fun _ hk => hk.2) (.int .u16 ((rd_T43 l0 x16_1).f4))) (fun _ hk => trivial)⟩, ⟨by (with_reducible repeat (first | refine blk_drewN ?_ _ | refine blk_drew ?_ | refine blk_alloc ?_ _)); refine blk_put (cs := #[.int .u16 ((rd_T43 l0 x16_1).f0), .int .u16 ((rd_T43 l0 x16_1).f1), .int .u16 ((rd_T43 l0 x16_1).f2), .int .u16 ((rd_T43 l0 x16_1).f3), .int .u16 0]) ?_ 4 _ rfl; (with_reducible repeat (first | refine blk_drewN ?_ _ | refine blk_drew ?_ | refine blk_alloc ?_ _)); refine blk_put (cs := #[.int .u16 ((rd_T43 l0 x16_1).f0), .int .u16 ((rd_T43 l0 x16_1).f1), .int .u16 ((rd_T43 l0 x16_1).f2), .int .u16 0, .int .u16 0]) ?_ 3 _ rfl; (with_reducible repeat (first | refine blk_drewN ?_ _ | refine blk_drew ?_ | refine blk_alloc ?_ _)); refine blk_put (cs := #[.int .u16 ((rd_T43 l0 x16_1).f0), .int .u16 ((rd_T43 l0 x16_1).f1), .int .u16 0, .int .u16 0, .int .u16 0]) ?_ 2 _ rfl; (with_reducible repeat (first | refine blk_drewN ?_ _ | refine blk_drew ?_ | refine blk_alloc ?_ _)); refine blk_put (cs := #[.int .u16 ((rd_T43 l0 x16_1).f0), .int .u16 0, .int .u16 0, .int .u16 0, .int .u16 0]) ?_ 1 _ rfl; (with_reducible repeat (first | refine blk_drewN ?_ _ | refine blk_drew ?_ | refine blk_alloc ?_ _)); refine blk_put (cs := #[.int .u16 0, .int .u16 0, .int .u16 0, .int .u16 0, .int .u16 0]) ?_ 0 _ rfl; (with_reducible repeat (first | refine blk_drewN ?_ _ | refine blk_drew ?_ | refine blk_alloc ?_ _)); exact BK128.out⟩, ⟨by repeat (first | (with_reducible first | exact HB.out | apply below_alloc | apply pw_below_drewN | apply below_drew1 | refine below_set ?_ GE128.out) | exact HB.out)⟩⟩
              case rest =>
                clear HC8
                try clear c1
                try clear p1
                try clear q1
                try clear hx1
                try clear p2
                try clear c5
                try clear c5b0
                try clear c5b1
                try clear c6
                try clear c6b0
                try clear c7
                try clear c7b0
                try clear c8
                try clear c11
                try clear c11b0
                try clear c11b1
                try clear p12
                try clear q12
                try clear hx12
                try clear hcz10_0
                try clear hcz10_1
                try clear hcz10_2
                try clear hcz10_3
                try clear hcz10_4
                try clear hfz10_0
                try clear hfz10_1
                try clear hfz10_2
                try clear hfz10_3
                try clear hfz10_4
                try clear hx127_0
                try clear hx127_1
                try clear hx127_2
                try clear hx127_3
                try clear hx127_4
                try clear p127
                try clear p2
                try clear q127
                obtain ⟨kq, x27_7, rfl, HA, HJ7, HO_7, BK128, HB⟩ := hcut
                cases kq with
                | zero => exact absurd HA.out (by simp [insolvencylaw0_Rows.j1])
                | succ kj7 =>
                  have H := HA.out
                  clear HA
                  simp only [insolvencylaw0_Rows.j1] at H
                  by_cases c14 : x27_7 = true
                  · subst c14
                    have H1 : (insolvencylaw0_Rows.j4 kj7 x7_1) = some r := by rw [if_pos rfl] at H; exact H
                    clear H
                    have H := H1
                    clear H1
                    have H' := Aside0.mk H
                    clear H
                    go_wp2
                    go_meet
                    case rel => exact ⟨_, (x7_1), H', ⟨by have := HK1.out; have := HJ7.out; first | omega | exact Nat.le_refl _⟩, ⟨by (with_reducible repeat (first | apply Kd.R_alloc | apply Kd.R_drewN | apply Kd.R_drew)); exact HO_7.out⟩, ⟨by repeat (first | (with_reducible first | exact HB.out | apply below_alloc | apply pw_below_drewN | apply below_drew1 | refine below_set ?_ GE128.out) | exact HB.out)⟩⟩
                  · replace c14 := Bool.eq_false_iff.mpr c14
                    subst c14
                    have H1 : (if a1 = 0 then (none) else (if (wrap64 (a1 - 1)) = 0 then (none) else (if (Int.tmod (wrap64 (((rd_T43 l0 x16_1).f3))) (wrap64 (a1 - 1))) ≥ (Int.tmod (wrap64 (((rd_T43 l0 x16_1).f2))) a1) then (insolvencylaw0_Rows.j2 kj7 a1 a2 x7_1 (wrap64 (x8_1 + (wrap64 (Int.tmod ((rd_T43 l0 x16_1).f0) 6)))) (Int.tmod (wrap64 (((rd_T43 l0 x16_1).f2))) a1) (wrap64 ((Int.tmod (wrap64 (((rd_T43 l0 x16_1).f3))) (wrap64 (a1 - 1))) + 1)) l0 (l0.length : Int) x16_1 ((rd_T43 l0 x16_1).f0) ((rd_T43 l0 x16_1).f1) ((rd_T43 l0 x16_1).f2) ((rd_T43 l0 x16_1).f3) ((rd_T43 l0 x16_1).f4)) else (insolvencylaw0_Rows.j2 kj7 a1 a2 x7_1 (wrap64 (x8_1 + (wrap64 (Int.tmod ((rd_T43 l0 x16_1).f0) 6)))) (Int.tmod (wrap64 (((rd_T43 l0 x16_1).f2))) a1) (Int.tmod (wrap64 (((rd_T43 l0 x16_1).f3))) (wrap64 (a1 - 1))) l0 (l0.length : Int) x16_1 ((rd_T43 l0 x16_1).f0) ((rd_T43 l0 x16_1).f1) ((rd_T43 l0 x16_1).f2) ((rd_T43 l0 x16_1).f3) ((rd_T43 l0 x16_1).f4))))) = some r := by rw [if_neg (show ¬ (false = true) by decide)] at H; exact H
                    clear H
                    have H := H1
                    clear H1
                    by_cases c15 : a1 = 0
                    · rw [if_pos c15] at H
                      exact absurd H (by simp)
                    · rw [if_neg c15] at H
                      have c15b0 : (a1 == 0) = false := beq_eq_false_iff_ne.mpr c15
                      have c15b1 : (a1 != 0) = true := bne_iff_ne.mpr c15
                      by_cases c16 : (wrap64 (a1 - 1)) = 0
                      · rw [if_pos c16] at H
                        exact absurd H (by simp)
                      · rw [if_neg c16] at H
                        have c16b0 : ((wrap64 (a1 - 1)) == 0) = false := beq_eq_false_iff_ne.mpr c16
                        have c16b1 : ((wrap64 (a1 - 1)) != 0) = true := bne_iff_ne.mpr c16
                        have HC17 := Aside0.mk H
                        clear H
                        have hcz18_0 : wc.cell? ⟨gb128, 0, none⟩ = some (.int .u16 ((rd_T43 l0 x16_1).f0)) := (blk_cell BK128.out 0).trans rfl
                        have hcz18_1 : wc.cell? ⟨gb128, 1, none⟩ = some (.int .u16 ((rd_T43 l0 x16_1).f1)) := (blk_cell BK128.out 1).trans rfl
                        have hcz18_2 : wc.cell? ⟨gb128, 2, none⟩ = some (.int .u16 ((rd_T43 l0 x16_1).f2)) := (blk_cell BK128.out 2).trans rfl
                        have hcz18_3 : wc.cell? ⟨gb128, 3, none⟩ = some (.int .u16 ((rd_T43 l0 x16_1).f3)) := (blk_cell BK128.out 3).trans rfl
                        have hcz18_4 : wc.cell? ⟨gb128, 4, none⟩ = some (.int .u16 ((rd_T43 l0 x16_1).f4)) := (blk_cell BK128.out 4).trans rfl
                        have hfz18_0 := blk_frozen BK128.out 0
                        have hfz18_1 := blk_frozen BK128.out 1
                        have hfz18_2 := blk_frozen BK128.out 2
                        have hfz18_3 := blk_frozen BK128.out 3
                        have hfz18_4 := blk_frozen BK128.out 4
                        go_upto_if 47 with (fail)
                        go_cut [12] (fun v12 wc => ∃ (kq : Nat) (x12_16 : Int), v12 = .int .i64 x12_16 ∧ Aside0 (insolvencylaw0_Rows.j2 kq a1 a2 x7_1 (wrap64 (x8_1 + (wrap64 (Int.tmod ((rd_T43 l0 x16_1).f0) 6)))) (Int.tmod (wrap64 (((rd_T43 l0 x16_1).f2))) a1) x12_16 l0 (l0.length : Int) x16_1 ((rd_T43 l0 x16_1).f0) ((rd_T43 l0 x16_1).f1) ((rd_T43 l0 x16_1).f2) ((rd_T43 l0 x16_1).f3) ((rd_T43 l0 x16_1).f4) = some r) ∧ Aside0 (kq ≤ kj7) ∧ Aside0 (Kd.R k36 36 wc w.heap.size (fun _ => True) u7 x7_1) ∧ Aside0 (wc.heap[gb128]? = some (.cells #[.int .u16 ((rd_T43 l0 x16_1).f0), .int .u16 ((rd_T43 l0 x16_1).f1), .int .u16 ((rd_T43 l0 x16_1).f2), .int .u16 ((rd_T43 l0 x16_1).f3), .int .u16 ((rd_T43 l0 x16_1).f4)] 43 (0, 0))) ∧ Aside0 (Below w.heap.size w wc))
                        case first =>
                          have H := HC17.out
                          clear HC17
                          by_cases c19 : (Int.tmod (wrap64 (((rd_T43 l0 x16_1).f3))) (wrap64 (a1 - 1))) ≥ (Int.tmod (wrap64 (((rd_T43 l0 x16_1).f2))) a1)
                          · rw [if_pos c19] at H
                            have c19b0 : decide ((Int.tmod (wrap64 (((rd_T43 l0 x16_1).f2))) a1) ≤ (Int.tmod (wrap64 (((rd_T43 l0 x16_1).f3))) (wrap64 (a1 - 1)))) = true := decide_eq_true c19
                            clear c19
                            (first | rw [c19b0] | (simp only [i64_w, i32_w]; rw [c19b0]) | rw [c19b1] | skip)
                            have H' := Aside0.mk H
                            clear H
                            go_wp2
                            go_meet
                            case rel => exact ⟨_, (wrap64 ((Int.tmod (wrap64 (((rd_T43 l0 x16_1).f3))) (wrap64 (a1 - 1))) + 1)), (by first | rfl | (simp; done) | (simp [*]; done)), H', ⟨by have := HK1.out; have := HJ7.out; first | omega | exact Nat.le_refl _⟩, ⟨by (with_reducible repeat (first | apply Kd.R_alloc | apply Kd.R_drewN | apply Kd.R_drew)); exact HO_7.out⟩, ⟨by (with_reducible repeat (first | refine blk_drewN ?_ _ | refine blk_drew ?_ | refine blk_alloc ?_ _)); exact BK128.out⟩, ⟨by repeat (first | (with_reducible first | exact HB.out | apply below_alloc | apply pw_below_drewN | apply below_drew1 | refine below_set ?_ GE128.out) | exact HB.out)⟩⟩
                          · rw [if_neg c19] at H
                            have c19b0 : decide ((Int.tmod (wrap64 (((rd_T43 l0 x16_1).f2))) a1) ≤ (Int.tmod (wrap64 (((rd_T43 l0 x16_1).f3))) (wrap64 (a1 - 1)))) = false := decide_eq_false c19
                            clear c19
                            (first | rw [c19b0] | (simp only [i64_w, i32_w]; rw [c19b0]) | rw [c19b1] | skip)
                            have H' := Aside0.mk H
                            clear H
                            go_wp2
                            go_meet
                            case rel => exact ⟨_, (Int.tmod (wrap64 (((rd_T43 l0 x16_1).f3))) (wrap64 (a1 - 1))), (by first | rfl | (simp; done) | (simp [*]; done)), H', ⟨by have := HK1.out; have := HJ7.out; first | omega | exact Nat.le_refl _⟩, ⟨by (with_reducible repeat (first | apply Kd.R_alloc | apply Kd.R_drewN | apply Kd.R_drew)); exact HO_7.out⟩, ⟨by (with_reducible repeat (first | refine blk_drewN ?_ _ | refine blk_drew ?_ | refine blk_alloc ?_ _)); exact BK128.out⟩, ⟨by repeat (first | (with_reducible first | exact HB.out | apply below_alloc | apply pw_below_drewN | apply below_drew1 | refine below_set ?_ GE128.out) | exact HB.out)⟩⟩
                        case rest =>
                          clear HC17
                          try clear c1
                          try clear p1
                          try clear q1
                          try clear hx1
                          try clear p2
                          try clear c5
                          try clear c5b0
                          try clear c5b1
                          try clear c6
                          try clear c6b0
                          try clear p6
                          try clear c7
                          try clear c7b0
                          try clear c8
                          try clear c11
                          try clear c11b0
                          try clear c11b1
                          try clear p12
                          try clear q12
                          try clear hx12
                          try clear c14
                          try clear c15
                          try clear c15b0
                          try clear c15b1
                          try clear c16
                          try clear c16b0
                          try clear c16b1
                          try clear c19
                          try clear c19b0
                          try clear c19b1
                          try clear hcz10_0
                          try clear hcz10_1
                          try clear hcz10_2
                          try clear hcz10_3
                          try clear hcz10_4
                          try clear hcz18_0
                          try clear hcz18_1
                          try clear hcz18_2
                          try clear hcz18_3
                          try clear hcz18_4
                          try clear hfz10_0
                          try clear hfz10_1
                          try clear hfz10_2
                          try clear hfz10_3
                          try clear hfz10_4
                          try clear hfz18_0
                          try clear hfz18_1
                          try clear hfz18_2
                          try clear hfz18_3
                          try clear hfz18_4
                          try clear hx127_0
                          try clear hx127_1
                          try clear hx127_2
                          try clear hx127_3
                          try clear hx127_4
                          try clear p1
                          try clear p12
                          try clear p127
                          try clear p2
                          try clear q1
                          try clear q12
                          try clear q127
                          obtain ⟨kq, x12_16, rfl, HA, HJ16, HO_7, BK128, HB⟩ := hcut
                          cases kq with
                          | zero => exact absurd HA.out (by simp [insolvencylaw0_Rows.j2])
                          | succ kj16 =>
                            have H := HA.out
                            clear HA
                            simp only [insolvencylaw0_Rows.j2] at H
                            have HC20 := Aside0.mk H
                            clear H
                            have hcz21_0 : wc.cell? ⟨gb128, 0, none⟩ = some (.int .u16 ((rd_T43 l0 x16_1).f0)) := (blk_cell BK128.out 0).trans rfl
                            have hcz21_1 : wc.cell? ⟨gb128, 1, none⟩ = some (.int .u16 ((rd_T43 l0 x16_1).f1)) := (blk_cell BK128.out 1).trans rfl
                            have hcz21_2 : wc.cell? ⟨gb128, 2, none⟩ = some (.int .u16 ((rd_T43 l0 x16_1).f2)) := (blk_cell BK128.out 2).trans rfl
                            have hcz21_3 : wc.cell? ⟨gb128, 3, none⟩ = some (.int .u16 ((rd_T43 l0 x16_1).f3)) := (blk_cell BK128.out 3).trans rfl
                            have hcz21_4 : wc.cell? ⟨gb128, 4, none⟩ = some (.int .u16 ((rd_T43 l0 x16_1).f4)) := (blk_cell BK128.out 4).trans rfl
                            have hfz21_0 := blk_frozen BK128.out 0
                            have hfz21_1 := blk_frozen BK128.out 1
                            have hfz21_2 := blk_frozen BK128.out 2
                            have hfz21_3 := blk_frozen BK128.out 3
                            have hfz21_4 := blk_frozen BK128.out 4
                            go_upto_if 65 with (first | ((with_reducible refine gate_dst (N := 13) rfl ?_); refine box_event ?hg (N := 13) ?hd (cs := #[.int .i64 0, .int .i64 0, .int .i64 0, .int .i64 0, .int .i64 0, .int .i64 0]) (t := 36) ?hr ?_; (case hd => rfl); (case hg => rfl); (case hr => first | (go_simp; done) | (go_simp; rfl)); intro gb129 hg w22 hbox hb; have n0_ := Aside0.mk (Kd.R_below (Kd.R_elderB (by (with_reducible repeat (first | apply Kd.R_alloc | apply Kd.R_drewN | apply Kd.R_drew)); exact HO_7.out) gb129 (Nat.le_of_eq hg.symm)) hb); have n1_ := Aside0.mk (blk_below (g := gb128) (o := .cells #[.int .u16 ((rd_T43 l0 x16_1).f0), .int .u16 ((rd_T43 l0 x16_1).f1), .int .u16 ((rd_T43 l0 x16_1).f2), .int .u16 ((rd_T43 l0 x16_1).f3), .int .u16 ((rd_T43 l0 x16_1).f4)] 43 (0, 0)) (by (with_reducible repeat (first | refine blk_drewN ?_ _ | refine blk_drew ?_ | refine blk_alloc ?_ _)); exact BK128.out) hb); have n2_ := Aside0.mk (below_step (by repeat (first | (with_reducible first | exact HB.out | apply below_alloc | apply pw_below_drewN | apply below_drew1 | refine below_set ?_ GE128.out) | exact HB.out)) hb); have n3_ := Aside0.mk (hbox); have n4_ := Aside0.mk ((by rw [hg]; exact (below_size (by repeat (first | (with_reducible first | exact HB.out | apply below_alloc | apply pw_below_drewN | apply below_drew1 | refine below_set ?_ GE128.out) | exact HB.out))) : w.heap.size ≤ gb129)); have n5_ := Aside0.mk ((by rw [hg]; exact (below_size (by repeat (first | (with_reducible first | exact HB.out | apply below_alloc | apply pw_below_drewN | apply below_drew1 | refine below_set ?_ GE128.out) | exact HB.out))) : w.heap.size ≤ gb129)); have n6_ := Aside0.mk ((by rw [hg]; exact Nat.ne_of_lt (blk_lt (g := gb128) (o := .cells #[.int .u16 ((rd_T43 l0 x16_1).f0), .int .u16 ((rd_T43 l0 x16_1).f1), .int .u16 ((rd_T43 l0 x16_1).f2), .int .u16 ((rd_T43 l0 x16_1).f3), .int .u16 ((rd_T43 l0 x16_1).f4)] 43 (0, 0)) (by (with_reducible repeat (first | refine blk_drewN ?_ _ | refine blk_drew ?_ | refine blk_alloc ?_ _)); exact BK128.out)) : gb128 ≠ gb129)); have n7_ := Aside0.mk ((by rw [hg]; exact Nat.ne_of_gt (blk_lt (g := gb128) (o := .cells #[.int .u16 ((rd_T43 l0 x16_1).f0), .int .u16 ((rd_T43 l0 x16_1).f1), .int .u16 ((rd_T43 l0 x16_1).f2), .int .u16 ((rd_T43 l0 x16_1).f3), .int .u16 ((rd_T43 l0 x16_1).f4)] 43 (0, 0)) (by (with_reducible repeat (first | refine blk_drewN ?_ _ | refine blk_drew ?_ | refine blk_alloc ?_ _)); exact BK128.out)) : gb129 ≠ gb128)); clear HO_7; clear BK128; clear HB; have HO_7 := n0_; have BK128 := n1_; have HB := n2_; have BK129 := n3_; have GW129 := n4_; have GE129 := n5_; have NB128_129 := n6_; have NB129_128 := n7_; clear n0_ n1_ n2_ n3_ n4_ n5_ n6_ n7_; clear hb hbox hg; have hnb23 := NB129_128.out; have hnc23 := NB128_129.out; have hcz24_0 : w22.cell? ⟨gb129, 0, none⟩ = some (.int .i64 0) := (blk_cell BK129.out 0).trans rfl; have hcz24_1 : w22.cell? ⟨gb129, 1, none⟩ = some (.int .i64 0) := (blk_cell BK129.out 1).trans rfl; have hcz24_2 : w22.cell? ⟨gb129, 2, none⟩ = some (.int .i64 0) := (blk_cell BK129.out 2).trans rfl; have hcz24_3 : w22.cell? ⟨gb129, 3, none⟩ = some (.int .i64 0) := (blk_cell BK129.out 3).trans rfl; have hcz24_4 : w22.cell? ⟨gb129, 4, none⟩ = some (.int .i64 0) := (blk_cell BK129.out 4).trans rfl; have hcz24_5 : w22.cell? ⟨gb129, 5, none⟩ = some (.int .i64 0) := (blk_cell BK129.out 5).trans rfl; have hfz24_0 := blk_frozen BK129.out 0; have hfz24_1 := blk_frozen BK129.out 1; have hfz24_2 := blk_frozen BK129.out 2; have hfz24_3 := blk_frozen BK129.out 3; have hfz24_4 := blk_frozen BK129.out 4; have hfz24_5 := blk_frozen BK129.out 5))
                            (try simp only [Act.put, List.setIfInBounds_toArray, List.set_cons_zero, List.set_cons_succ])
                            go_cut [] (fun wc => ∃ (kq : Nat) (x130005_19 : Int), Aside0 (insolvencylaw0_Rows.j3 kq a1 a2 x7_1 (wrap64 (x8_1 + (wrap64 (Int.tmod ((rd_T43 l0 x16_1).f0) 6)))) l0 (l0.length : Int) x16_1 (wrap64 (x8_1 + (wrap64 (Int.tmod ((rd_T43 l0 x16_1).f0) 6)))) (wrap64 (1 + (wrap64 (Int.tmod ((rd_T43 l0 x16_1).f1) 3)))) (Int.tmod (wrap64 (((rd_T43 l0 x16_1).f2))) a1) x12_16 (wrap64 (Int.tmod ((rd_T43 l0 x16_1).f4) 40)) x130005_19 = some r) ∧ Aside0 (kq ≤ kj16) ∧ Aside0 (Kd.R k36 36 wc w.heap.size (fun k_ => k_ ≠ gb129) u7 x7_1) ∧ Aside0 (wc.heap[gb128]? = some (.cells #[.int .u16 ((rd_T43 l0 x16_1).f0), .int .u16 ((rd_T43 l0 x16_1).f1), .int .u16 ((rd_T43 l0 x16_1).f2), .int .u16 ((rd_T43 l0 x16_1).f3), .int .u16 ((rd_T43 l0 x16_1).f4)] 43 (0, 0))) ∧ Aside0 (wc.heap[gb129]? = some (.cells #[.int .i64 (wrap64 (x8_1 + (wrap64 (Int.tmod ((rd_T43 l0 x16_1).f0) 6)))), .int .i64 (wrap64 (1 + (wrap64 (Int.tmod ((rd_T43 l0 x16_1).f1) 3)))), .int .i64 (Int.tmod (wrap64 (((rd_T43 l0 x16_1).f2))) a1), .int .i64 x12_16, .int .i64 (wrap64 (Int.tmod ((rd_T43 l0 x16_1).f4) 40)), .int .i64 x130005_19] 36 (0, 0))) ∧ Aside0 (Below w.heap.size w wc))
                            case first =>
                              have H := HC20.out
                              clear HC20
                              by_cases c25 : (wrap64 (1 + (wrap64 (Int.tmod ((rd_T43 l0 x16_1).f1) 3)))) = 3
                              · rw [if_pos c25] at H
                                have c25b0 : ((wrap64 (1 + (wrap64 (Int.tmod ((rd_T43 l0 x16_1).f1) 3)))) == 3) = true := beq_iff_eq.mpr c25
                                have c25b1 : ((wrap64 (1 + (wrap64 (Int.tmod ((rd_T43 l0 x16_1).f1) 3)))) != 3) = false := bne_eq_false_iff_eq.mpr c25
                                clear c25
                                (first | rw [c25b0] | (simp only [i64_w, i32_w]; rw [c25b0]) | rw [c25b1] | skip)
                                have H' := Aside0.mk H
                                clear H
                                have hnb26 := NB128_129.out
                                have hnc26 := NB129_128.out
                                have hcz27_0 : w22.cell? ⟨gb128, 0, none⟩ = some (.int .u16 ((rd_T43 l0 x16_1).f0)) := (blk_cell BK128.out 0).trans rfl
                                have hcz27_1 : w22.cell? ⟨gb128, 1, none⟩ = some (.int .u16 ((rd_T43 l0 x16_1).f1)) := (blk_cell BK128.out 1).trans rfl
                                have hcz27_2 : w22.cell? ⟨gb128, 2, none⟩ = some (.int .u16 ((rd_T43 l0 x16_1).f2)) := (blk_cell BK128.out 2).trans rfl
                                have hcz27_3 : w22.cell? ⟨gb128, 3, none⟩ = some (.int .u16 ((rd_T43 l0 x16_1).f3)) := (blk_cell BK128.out 3).trans rfl
                                have hcz27_4 : w22.cell? ⟨gb128, 4, none⟩ = some (.int .u16 ((rd_T43 l0 x16_1).f4)) := (blk_cell BK128.out 4).trans rfl
                                have hfz27_0 := blk_frozen BK128.out 0
                                have hfz27_1 := blk_frozen BK128.out 1
                                have hfz27_2 := blk_frozen BK128.out 2
                                have hfz27_3 := blk_frozen BK128.out 3
                                have hfz27_4 := blk_frozen BK128.out 4
                                have hcz28_0 : w22.cell? ⟨gb129, 0, none⟩ = some (.int .i64 0) := (blk_cell BK129.out 0).trans rfl
                                have hcz28_1 : w22.cell? ⟨gb129, 1, none⟩ = some (.int .i64 0) := (blk_cell BK129.out 1).trans rfl
                                have hcz28_2 : w22.cell? ⟨gb129, 2, none⟩ = some (.int .i64 0) := (blk_cell BK129.out 2).trans rfl
                                have hcz28_3 : w22.cell? ⟨gb129, 3, none⟩ = some (.int .i64 0) := (blk_cell BK129.out 3).trans rfl
                                have hcz28_4 : w22.cell? ⟨gb129, 4, none⟩ = some (.int .i64 0) := (blk_cell BK129.out 4).trans rfl
                                have hcz28_5 : w22.cell? ⟨gb129, 5, none⟩ = some (.int .i64 0) := (blk_cell BK129.out 5).trans rfl
                                have hfz28_0 := blk_frozen BK129.out 0
                                have hfz28_1 := blk_frozen BK129.out 1
                                have hfz28_2 := blk_frozen BK129.out 2
                                have hfz28_3 := blk_frozen BK129.out 3
                                have hfz28_4 := blk_frozen BK129.out 4
                                have hfz28_5 := blk_frozen BK129.out 5
                                go_wp2
                                go_meet
                                case rel => exact ⟨_, (wrap64 (Int.tmod (IntKind.u16.wrap (Int.tdiv ((rd_T43 l0 x16_1).f4) 40)) 60)), H', ⟨by have := HK1.out; have := HJ7.out; have := HJ16.out; first | omega | exact Nat.le_refl _⟩, ⟨by (with_reducible repeat (first | apply Kd.R_alloc | apply Kd.R_drewN | apply Kd.R_drew)); exact Kd.R_mono (Kd.R_far (p := ⟨gb129, 5, none⟩) (Kd.R_far (p := ⟨gb129, 5, none⟩) (Kd.R_far (p := ⟨gb129, 4, none⟩) (Kd.R_far (p := ⟨gb129, 3, none⟩) (Kd.R_far (p := ⟨gb129, 2, none⟩) (Kd.R_far (p := ⟨gb129, 1, none⟩) (Kd.R_far (p := ⟨gb129, 0, none⟩) (Kd.R_mono HO_7.out (fun k_ hk => (⟨hk, hk.2⟩ : _ ∧ k_ ≠ gb129))) (fun _ hk => hk.2) (.int .i64 (wrap64 (x8_1 + (wrap64 (Int.tmod ((rd_T43 l0 x16_1).f0) 6)))))) (fun _ hk => hk.2) (.int .i64 (wrap64 (1 + (wrap64 (Int.tmod ((rd_T43 l0 x16_1).f1) 3)))))) (fun _ hk => hk.2) (.int .i64 (Int.tmod (wrap64 (((rd_T43 l0 x16_1).f2))) a1))) (fun _ hk => hk.2) (.int .i64 x12_16)) (fun _ hk => hk.2) (.int .i64 (wrap64 (Int.tmod ((rd_T43 l0 x16_1).f4) 40)))) (fun _ hk => hk.2) (.int .i64 0)) (fun _ hk => hk.2) (.int .i64 (wrap64 (Int.tmod (IntKind.u16.wrap (Int.tdiv ((rd_T43 l0 x16_1).f4) 40)) 60)))) (fun _ hk => hk.1.2)⟩, ⟨by (with_reducible repeat (first | refine blk_drewN ?_ _ | refine blk_drew ?_ | refine blk_alloc ?_ _)); refine blk_far ?_ NB128_129.out _; (with_reducible repeat (first | refine blk_drewN ?_ _ | refine blk_drew ?_ | refine blk_alloc ?_ _)); refine blk_far ?_ NB128_129.out _; (with_reducible repeat (first | refine blk_drewN ?_ _ | refine blk_drew ?_ | refine blk_alloc ?_ _)); refine blk_far ?_ NB128_129.out _; (with_reducible repeat (first | refine blk_drewN ?_ _ | refine blk_drew ?_ | refine blk_alloc ?_ _)); refine blk_far ?_ NB128_129.out _; (with_reducible repeat (first | refine blk_drewN ?_ _ | refine blk_drew ?_ | refine blk_alloc ?_ _)); refine blk_far ?_ NB128_129.out _; (with_reducible repeat (first | refine blk_drewN ?_ _ | refine blk_drew ?_ | refine blk_alloc ?_ _)); refine blk_far ?_ NB128_129.out _; (with_reducible repeat (first | refine blk_drewN ?_ _ | refine blk_drew ?_ | refine blk_alloc ?_ _)); refine blk_far ?_ NB128_129.out _; (with_reducible repeat (first | refine blk_drewN ?_ _ | refine blk_drew ?_ | refine blk_alloc ?_ _)); exact BK128.out⟩, ⟨by (with_reducible repeat (first | refine blk_drewN ?_ _ | refine blk_drew ?_ | refine blk_alloc ?_ _)); refine blk_put (cs := #[.int .i64 (wrap64 (x8_1 + (wrap64 (Int.tmod ((rd_T43 l0 x16_1).f0) 6)))), .int .i64 (wrap64 (1 + (wrap64 (Int.tmod ((rd_T43 l0 x16_1).f1) 3)))), .int .i64 (Int.tmod (wrap64 (((rd_T43 l0 x16_1).f2))) a1), .int .i64 x12_16, .int .i64 (wrap64 (Int.tmod ((rd_T43 l0 x16_1).f4) 40)), .int .i64 0]) ?_ 5 _ rfl; (with_reducible repeat (first | refine blk_drewN ?_ _ | refine blk_drew ?_ | refine blk_alloc ?_ _)); refine blk_put (cs := #[.int .i64 (wrap64 (x8_1 + (wrap64 (Int.tmod ((rd_T43 l0 x16_1).f0) 6)))), .int .i64 (wrap64 (1 + (wrap64 (Int.tmod ((rd_T43 l0 x16_1).f1) 3)))), .int .i64 (Int.tmod (wrap64 (((rd_T43 l0 x16_1).f2))) a1), .int .i64 x12_16, .int .i64 (wrap64 (Int.tmod ((rd_T43 l0 x16_1).f4) 40)), .int .i64 0]) ?_ 5 _ rfl; (with_reducible repeat (first | refine blk_drewN ?_ _ | refine blk_drew ?_ | refine blk_alloc ?_ _)); refine blk_put (cs := #[.int .i64 (wrap64 (x8_1 + (wrap64 (Int.tmod ((rd_T43 l0 x16_1).f0) 6)))), .int .i64 (wrap64 (1 + (wrap64 (Int.tmod ((rd_T43 l0 x16_1).f1) 3)))), .int .i64 (Int.tmod (wrap64 (((rd_T43 l0 x16_1).f2))) a1), .int .i64 x12_16, .int .i64 0, .int .i64 0]) ?_ 4 _ rfl; (with_reducible repeat (first | refine blk_drewN ?_ _ | refine blk_drew ?_ | refine blk_alloc ?_ _)); refine blk_put (cs := #[.int .i64 (wrap64 (x8_1 + (wrap64 (Int.tmod ((rd_T43 l0 x16_1).f0) 6)))), .int .i64 (wrap64 (1 + (wrap64 (Int.tmod ((rd_T43 l0 x16_1).f1) 3)))), .int .i64 (Int.tmod (wrap64 (((rd_T43 l0 x16_1).f2))) a1), .int .i64 0, .int .i64 0, .int .i64 0]) ?_ 3 _ rfl; (with_reducible repeat (first | refine blk_drewN ?_ _ | refine blk_drew ?_ | refine blk_alloc ?_ _)); refine blk_put (cs := #[.int .i64 (wrap64 (x8_1 + (wrap64 (Int.tmod ((rd_T43 l0 x16_1).f0) 6)))), .int .i64 (wrap64 (1 + (wrap64 (Int.tmod ((rd_T43 l0 x16_1).f1) 3)))), .int .i64 0, .int .i64 0, .int .i64 0, .int .i64 0]) ?_ 2 _ rfl; (with_reducible repeat (first | refine blk_drewN ?_ _ | refine blk_drew ?_ | refine blk_alloc ?_ _)); refine blk_put (cs := #[.int .i64 (wrap64 (x8_1 + (wrap64 (Int.tmod ((rd_T43 l0 x16_1).f0) 6)))), .int .i64 0, .int .i64 0, .int .i64 0, .int .i64 0, .int .i64 0]) ?_ 1 _ rfl; (with_reducible repeat (first | refine blk_drewN ?_ _ | refine blk_drew ?_ | refine blk_alloc ?_ _)); refine blk_put (cs := #[.int .i64 0, .int .i64 0, .int .i64 0, .int .i64 0, .int .i64 0, .int .i64 0]) ?_ 0 _ rfl; (with_reducible repeat (first | refine blk_drewN ?_ _ | refine blk_drew ?_ | refine blk_alloc ?_ _)); exact BK129.out⟩, ⟨by repeat (first | (with_reducible first | exact HB.out | apply below_alloc | apply pw_below_drewN | apply below_drew1 | refine below_set ?_ GE128.out | refine below_set ?_ GE129.out) | exact HB.out)⟩⟩
                              · rw [if_neg c25] at H
                                have c25b0 : ((wrap64 (1 + (wrap64 (Int.tmod ((rd_T43 l0 x16_1).f1) 3)))) == 3) = false := beq_eq_false_iff_ne.mpr c25
                                have c25b1 : ((wrap64 (1 + (wrap64 (Int.tmod ((rd_T43 l0 x16_1).f1) 3)))) != 3) = true := bne_iff_ne.mpr c25
                                (first | rw [c25b0] | (simp only [i64_w, i32_w]; rw [c25b0]) | rw [c25b1] | skip)
                                have H' := Aside0.mk H
                                clear H
                                go_wp2
                                go_meet
                                case rel => exact ⟨_, (0), H', ⟨by have := HK1.out; have := HJ7.out; have := HJ16.out; first | omega | exact Nat.le_refl _⟩, ⟨by (with_reducible repeat (first | apply Kd.R_alloc | apply Kd.R_drewN | apply Kd.R_drew)); exact Kd.R_mono (Kd.R_far (p := ⟨gb129, 5, none⟩) (Kd.R_far (p := ⟨gb129, 4, none⟩) (Kd.R_far (p := ⟨gb129, 3, none⟩) (Kd.R_far (p := ⟨gb129, 2, none⟩) (Kd.R_far (p := ⟨gb129, 1, none⟩) (Kd.R_far (p := ⟨gb129, 0, none⟩) (Kd.R_mono HO_7.out (fun k_ hk => (⟨hk, hk.2⟩ : _ ∧ k_ ≠ gb129))) (fun _ hk => hk.2) (.int .i64 (wrap64 (x8_1 + (wrap64 (Int.tmod ((rd_T43 l0 x16_1).f0) 6)))))) (fun _ hk => hk.2) (.int .i64 (wrap64 (1 + (wrap64 (Int.tmod ((rd_T43 l0 x16_1).f1) 3)))))) (fun _ hk => hk.2) (.int .i64 (Int.tmod (wrap64 (((rd_T43 l0 x16_1).f2))) a1))) (fun _ hk => hk.2) (.int .i64 x12_16)) (fun _ hk => hk.2) (.int .i64 (wrap64 (Int.tmod ((rd_T43 l0 x16_1).f4) 40)))) (fun _ hk => hk.2) (.int .i64 0)) (fun _ hk => hk.1.2)⟩, ⟨by (with_reducible repeat (first | refine blk_drewN ?_ _ | refine blk_drew ?_ | refine blk_alloc ?_ _)); refine blk_far ?_ NB128_129.out _; (with_reducible repeat (first | refine blk_drewN ?_ _ | refine blk_drew ?_ | refine blk_alloc ?_ _)); refine blk_far ?_ NB128_129.out _; (with_reducible repeat (first | refine blk_drewN ?_ _ | refine blk_drew ?_ | refine blk_alloc ?_ _)); refine blk_far ?_ NB128_129.out _; (with_reducible repeat (first | refine blk_drewN ?_ _ | refine blk_drew ?_ | refine blk_alloc ?_ _)); refine blk_far ?_ NB128_129.out _; (with_reducible repeat (first | refine blk_drewN ?_ _ | refine blk_drew ?_ | refine blk_alloc ?_ _)); refine blk_far ?_ NB128_129.out _; (with_reducible repeat (first | refine blk_drewN ?_ _ | refine blk_drew ?_ | refine blk_alloc ?_ _)); refine blk_far ?_ NB128_129.out _; (with_reducible repeat (first | refine blk_drewN ?_ _ | refine blk_drew ?_ | refine blk_alloc ?_ _)); exact BK128.out⟩, ⟨by (with_reducible repeat (first | refine blk_drewN ?_ _ | refine blk_drew ?_ | refine blk_alloc ?_ _)); refine blk_put (cs := #[.int .i64 (wrap64 (x8_1 + (wrap64 (Int.tmod ((rd_T43 l0 x16_1).f0) 6)))), .int .i64 (wrap64 (1 + (wrap64 (Int.tmod ((rd_T43 l0 x16_1).f1) 3)))), .int .i64 (Int.tmod (wrap64 (((rd_T43 l0 x16_1).f2))) a1), .int .i64 x12_16, .int .i64 (wrap64 (Int.tmod ((rd_T43 l0 x16_1).f4) 40)), .int .i64 0]) ?_ 5 _ rfl; (with_reducible repeat (first | refine blk_drewN ?_ _ | refine blk_drew ?_ | refine blk_alloc ?_ _)); refine blk_put (cs := #[.int .i64 (wrap64 (x8_1 + (wrap64 (Int.tmod ((rd_T43 l0 x16_1).f0) 6)))), .int .i64 (wrap64 (1 + (wrap64 (Int.tmod ((rd_T43 l0 x16_1).f1) 3)))), .int .i64 (Int.tmod (wrap64 (((rd_T43 l0 x16_1).f2))) a1), .int .i64 x12_16, .int .i64 0, .int .i64 0]) ?_ 4 _ rfl; (with_reducible repeat (first | refine blk_drewN ?_ _ | refine blk_drew ?_ | refine blk_alloc ?_ _)); refine blk_put (cs := #[.int .i64 (wrap64 (x8_1 + (wrap64 (Int.tmod ((rd_T43 l0 x16_1).f0) 6)))), .int .i64 (wrap64 (1 + (wrap64 (Int.tmod ((rd_T43 l0 x16_1).f1) 3)))), .int .i64 (Int.tmod (wrap64 (((rd_T43 l0 x16_1).f2))) a1), .int .i64 0, .int .i64 0, .int .i64 0]) ?_ 3 _ rfl; (with_reducible repeat (first | refine blk_drewN ?_ _ | refine blk_drew ?_ | refine blk_alloc ?_ _)); refine blk_put (cs := #[.int .i64 (wrap64 (x8_1 + (wrap64 (Int.tmod ((rd_T43 l0 x16_1).f0) 6)))), .int .i64 (wrap64 (1 + (wrap64 (Int.tmod ((rd_T43 l0 x16_1).f1) 3)))), .int .i64 0, .int .i64 0, .int .i64 0, .int .i64 0]) ?_ 2 _ rfl; (with_reducible repeat (first | refine blk_drewN ?_ _ | refine blk_drew ?_ | refine blk_alloc ?_ _)); refine blk_put (cs := #[.int .i64 (wrap64 (x8_1 + (wrap64 (Int.tmod ((rd_T43 l0 x16_1).f0) 6)))), .int .i64 0, .int .i64 0, .int .i64 0, .int .i64 0, .int .i64 0]) ?_ 1 _ rfl; (with_reducible repeat (first | refine blk_drewN ?_ _ | refine blk_drew ?_ | refine blk_alloc ?_ _)); refine blk_put (cs := #[.int .i64 0, .int .i64 0, .int .i64 0, .int .i64 0, .int .i64 0, .int .i64 0]) ?_ 0 _ rfl; (with_reducible repeat (first | refine blk_drewN ?_ _ | refine blk_drew ?_ | refine blk_alloc ?_ _)); exact BK129.out⟩, ⟨by repeat (first | (with_reducible first | exact HB.out | apply below_alloc | apply pw_below_drewN | apply below_drew1 | refine below_set ?_ GE128.out | refine below_set ?_ GE129.out) | exact HB.out)⟩⟩
                            case rest =>
                              clear HC20
                              try clear c1
                              try clear p1
                              try clear q1
                              try clear hx1
                              try clear c2
                              try clear p2
                              try clear c5
                              try clear c5b0
                              try clear c5b1
                              try clear c6
                              try clear c6b0
                              try clear p6
                              try clear c7
                              try clear c7b0
                              try clear c8
                              try clear c11
                              try clear c11b0
                              try clear c11b1
                              try clear p12
                              try clear q12
                              try clear hx12
                              try clear c14
                              try clear c15
                              try clear c15b0
                              try clear c15b1
                              try clear c16
                              try clear c16b0
                              try clear c16b1
                              try clear c19
                              try clear c19b0
                              try clear c19b1
                              try clear c23
                              try clear c25
                              try clear c25b0
                              try clear c25b1
                              try clear c26
                              try clear hcz10_0
                              try clear hcz10_1
                              try clear hcz10_2
                              try clear hcz10_3
                              try clear hcz10_4
                              try clear hcz18_0
                              try clear hcz18_1
                              try clear hcz18_2
                              try clear hcz18_3
                              try clear hcz18_4
                              try clear hcz21_0
                              try clear hcz21_1
                              try clear hcz21_2
                              try clear hcz21_3
                              try clear hcz21_4
                              try clear hcz24_0
                              try clear hcz24_1
                              try clear hcz24_2
                              try clear hcz24_3
                              try clear hcz24_4
                              try clear hcz24_5
                              try clear hcz27_0
                              try clear hcz27_1
                              try clear hcz27_2
                              try clear hcz27_3
                              try clear hcz27_4
                              try clear hcz28_0
                              try clear hcz28_1
                              try clear hcz28_2
                              try clear hcz28_3
                              try clear hcz28_4
                              try clear hcz28_5
                              try clear hfz10_0
                              try clear hfz10_1
                              try clear hfz10_2
                              try clear hfz10_3
                              try clear hfz10_4
                              try clear hfz18_0
                              try clear hfz18_1
                              try clear hfz18_2
                              try clear hfz18_3
                              try clear hfz18_4
                              try clear hfz21_0
                              try clear hfz21_1
                              try clear hfz21_2
                              try clear hfz21_3
                              try clear hfz21_4
                              try clear hfz24_0
                              try clear hfz24_1
                              try clear hfz24_2
                              try clear hfz24_3
                              try clear hfz24_4
                              try clear hfz24_5
                              try clear hfz27_0
                              try clear hfz27_1
                              try clear hfz27_2
                              try clear hfz27_3
                              try clear hfz27_4
                              try clear hfz28_0
                              try clear hfz28_1
                              try clear hfz28_2
                              try clear hfz28_3
                              try clear hfz28_4
                              try clear hfz28_5
                              try clear hx127_0
                              try clear hx127_1
                              try clear hx127_2
                              try clear hx127_3
                              try clear hx127_4
                              try clear p1
                              try clear p12
                              try clear p127
                              try clear p2
                              try clear p6
                              try clear q1
                              try clear q12
                              try clear q127
                              obtain ⟨kq, x130005_19, HA, HJ19, HO_7, BK128, BK129, HB⟩ := hcut
                              cases kq with
                              | zero => exact absurd HA.out (by simp [insolvencylaw0_Rows.j3])
                              | succ kj19 =>
                                have H := HA.out
                                clear HA
                                simp only [insolvencylaw0_Rows.j3] at H
                                by_cases c29 : x7_1.length < 2932031007402
                                · rw [if_pos c29] at H
                                  have LMc29 := Aside0.mk c29
                                  clear c29
                                  obtain ⟨y130, hy130⟩ : ∃ y_ : List (S36), y_ = (x7_1 ++ [(⟨(wrap64 (x8_1 + (wrap64 (Int.tmod ((rd_T43 l0 x16_1).f0) 6)))), (wrap64 (1 + (wrap64 (Int.tmod ((rd_T43 l0 x16_1).f1) 3)))), (Int.tmod (wrap64 (((rd_T43 l0 x16_1).f2))) a1), x12_16, (wrap64 (Int.tmod ((rd_T43 l0 x16_1).f4) 40)), x130005_19⟩ : S36)]) := ⟨_, rfl⟩
                                  replace H : (insolvencylaw0_Rows.l0 kj19 a1 a2 y130 (wrap64 (x8_1 + (wrap64 (Int.tmod ((rd_T43 l0 x16_1).f0) 6)))) l0 (l0.length : Int) (wrap64 (x16_1 + 1))) = some r := by first | (rw [hy130]; with_reducible exact H) | (have H2_ := (Option.bind_some _ _).symm.trans H; rw [hy130]; with_reducible exact H2_) | (have H2_ := (Option.bind_some _ _).symm.trans H; with_reducible exact H2_) | with_reducible exact H | (rw [hy130]; exact H) | exact H
                                  have Ny130 := Aside0.mk hy130
                                  clear hy130
                                  have H' := Aside0.mk H
                                  clear H
                                  have hnb30 := NB129_128.out
                                  have hnc30 := NB128_129.out
                                  have hcz31_0 : wc.cell? ⟨gb129, 0, none⟩ = some (.int .i64 (wrap64 (x8_1 + (wrap64 (Int.tmod ((rd_T43 l0 x16_1).f0) 6))))) := (blk_cell BK129.out 0).trans rfl
                                  have hcz31_1 : wc.cell? ⟨gb129, 1, none⟩ = some (.int .i64 (wrap64 (1 + (wrap64 (Int.tmod ((rd_T43 l0 x16_1).f1) 3))))) := (blk_cell BK129.out 1).trans rfl
                                  have hcz31_2 : wc.cell? ⟨gb129, 2, none⟩ = some (.int .i64 (Int.tmod (wrap64 (((rd_T43 l0 x16_1).f2))) a1)) := (blk_cell BK129.out 2).trans rfl
                                  have hcz31_3 : wc.cell? ⟨gb129, 3, none⟩ = some (.int .i64 x12_16) := (blk_cell BK129.out 3).trans rfl
                                  have hcz31_4 : wc.cell? ⟨gb129, 4, none⟩ = some (.int .i64 (wrap64 (Int.tmod ((rd_T43 l0 x16_1).f4) 40))) := (blk_cell BK129.out 4).trans rfl
                                  have hcz31_5 : wc.cell? ⟨gb129, 5, none⟩ = some (.int .i64 x130005_19) := (blk_cell BK129.out 5).trans rfl
                                  have hfz31_0 := blk_frozen BK129.out 0
                                  have hfz31_1 := blk_frozen BK129.out 1
                                  have hfz31_2 := blk_frozen BK129.out 2
                                  have hfz31_3 := blk_frozen BK129.out 3
                                  have hfz31_4 := blk_frozen BK129.out 4
                                  have hfz31_5 := blk_frozen BK129.out 5
                                  go_wp2_with (first | ((with_reducible refine gate_builtin (b := .append) (xs := #[.tmp 72, .tmp 74]) rfl ?_); at_builtin; refine Kd.R_append k36 (w0 := w) w.heap.size rfl (.tmp 72) (.tmp 74) 24 36 (.agg #[(.int .i64 0), (.int .i64 0), (.int .i64 0), (.int .i64 0), (.int .i64 0), (.int .i64 0)]) 48 rfl Try.underlying24 info36 rfl (by decide) (by omega) u7 x7_1 (⟨(wrap64 (x8_1 + (wrap64 (Int.tmod ((rd_T43 l0 x16_1).f0) 6)))), (wrap64 (1 + (wrap64 (Int.tmod ((rd_T43 l0 x16_1).f1) 3)))), (Int.tmod (wrap64 (((rd_T43 l0 x16_1).f2))) a1), x12_16, (wrap64 (Int.tmod ((rd_T43 l0 x16_1).f4) 40)), x130005_19⟩ : S36) [.int .i64 (wrap64 (x8_1 + (wrap64 (Int.tmod ((rd_T43 l0 x16_1).f0) 6)))), .int .i64 (wrap64 (1 + (wrap64 (Int.tmod ((rd_T43 l0 x16_1).f1) 3)))), .int .i64 (Int.tmod (wrap64 (((rd_T43 l0 x16_1).f2))) a1), .int .i64 x12_16, .int .i64 (wrap64 (Int.tmod ((rd_T43 l0 x16_1).f4) 40)), .int .i64 x130005_19] (fun k_ => k_ ≠ gb129) (fun _ => False) rfl rfl ?aP (fun _ hk => hk.elim) ?aF ?aO ?aB ?aS ?aL ?_; (case aP => exact k36_mkM _ _ _ (⟨(wrap64 (x8_1 + (wrap64 (Int.tmod ((rd_T43 l0 x16_1).f0) 6)))), (wrap64 (1 + (wrap64 (Int.tmod ((rd_T43 l0 x16_1).f1) 3)))), (Int.tmod (wrap64 (((rd_T43 l0 x16_1).f2))) a1), x12_16, (wrap64 (Int.tmod ((rd_T43 l0 x16_1).f4) 40)), x130005_19⟩ : S36)); (case aB => exact (by repeat (first | (with_reducible first | exact HB.out | apply below_alloc | apply pw_below_drewN | apply below_drew1 | refine below_set ?_ GE128.out | refine below_set ?_ GE129.out) | exact HB.out))); (case aF => exact (fun k_ hk => Kd.freshB (g := gb129) (o := .cells #[.int .i64 (wrap64 (x8_1 + (wrap64 (Int.tmod ((rd_T43 l0 x16_1).f0) 6)))), .int .i64 (wrap64 (1 + (wrap64 (Int.tmod ((rd_T43 l0 x16_1).f1) 3)))), .int .i64 (Int.tmod (wrap64 (((rd_T43 l0 x16_1).f2))) a1), .int .i64 x12_16, .int .i64 (wrap64 (Int.tmod ((rd_T43 l0 x16_1).f4) 40)), .int .i64 x130005_19] 36 (0, 0)) (by (with_reducible repeat (first | refine blk_drewN ?_ _ | refine blk_drew ?_ | refine blk_alloc ?_ _)); exact BK129.out) k_ hk)); (case aO => exact (by (with_reducible repeat (first | apply Kd.R_alloc | apply Kd.R_drewN | apply Kd.R_drew)); exact HO_7.out)); (case aS => exact (below_size (by repeat (first | (with_reducible first | exact HB.out | apply below_alloc | apply pw_below_drewN | apply below_drew1 | refine below_set ?_ GE128.out | refine below_set ?_ GE129.out) | exact HB.out)))); (case aL => have := LMc29.out; omega); intro v131 w32 ho hb hg hat; rw [← Ny130.out] at ho; have n0_ := Aside0.mk (blk_grown (g := gb128) (o := .cells #[.int .u16 ((rd_T43 l0 x16_1).f0), .int .u16 ((rd_T43 l0 x16_1).f1), .int .u16 ((rd_T43 l0 x16_1).f2), .int .u16 ((rd_T43 l0 x16_1).f3), .int .u16 ((rd_T43 l0 x16_1).f4)] 43 (0, 0)) (by (with_reducible repeat (first | refine blk_drewN ?_ _ | refine blk_drew ?_ | refine blk_alloc ?_ _)); exact BK128.out) hg (Kd.R_ne HO_7.out BK128.out (by decide))); have n1_ := Aside0.mk (blk_grown (g := gb129) (o := .cells #[.int .i64 (wrap64 (x8_1 + (wrap64 (Int.tmod ((rd_T43 l0 x16_1).f0) 6)))), .int .i64 (wrap64 (1 + (wrap64 (Int.tmod ((rd_T43 l0 x16_1).f1) 3)))), .int .i64 (Int.tmod (wrap64 (((rd_T43 l0 x16_1).f2))) a1), .int .i64 x12_16, .int .i64 (wrap64 (Int.tmod ((rd_T43 l0 x16_1).f4) 40)), .int .i64 x130005_19] 36 (0, 0)) (by (with_reducible repeat (first | refine blk_drewN ?_ _ | refine blk_drew ?_ | refine blk_alloc ?_ _)); exact BK129.out) hg (Kd.R_away HO_7.out (fun _ hk => hk))); have n2_ := Aside0.mk (hb); have n3_ := Aside0.mk (ho); clear BK128; clear BK129; clear HB; clear HO_7; have BK128 := n0_; have BK129 := n1_; have HB := n2_; have HO132 := n3_; clear n0_ n1_ n2_ n3_; clear ho hb hg hat))
                                  go_roundg kj19
                                  case measure => have := HK1.out; have := HJ7.out; have := HJ16.out; have := HJ19.out; omega
                                  case rel => exact ⟨(y130), ((wrap64 (x8_1 + (wrap64 (Int.tmod ((rd_T43 l0 x16_1).f0) 6))))), (wrap64 (x16_1 + 1)), (by first | rfl | (simp; done) | (simp [*]; done)), (by first | rfl | (simp; done) | (simp [*]; done)), H', ⟨by have := HK1.out; have := HJ7.out; have := HJ16.out; have := HJ19.out; omega⟩, ⟨by (with_reducible repeat (first | apply Kd.R_alloc | apply Kd.R_drewN | apply Kd.R_drew)); exact Kd.R_mono HO132.out (fun _ hk => trivial)⟩, ⟨by repeat (first | (with_reducible first | exact HB.out | apply below_alloc | apply pw_below_drewN | apply below_drew1 | refine below_set ?_ GE128.out | refine below_set ?_ GE129.out) | exact HB.out)⟩⟩
                                · rw [if_neg c29] at H
                                  exact absurd H (by simp)
            · rw [if_neg c7] at H
              exact absurd H (by simp)
          · rw [if_neg c6] at H
            exact absurd H (by simp)
        · rw [if_neg c5] at H
          have c5b0 : decide (x16_1 < (l0.length : Int)) = false := decide_eq_false c5
          clear c5
          (first | rw [c5b0] | (simp only [i64_w, i32_w]; rw [c5b0]) | rw [c5b1] | skip)
          have H' := Aside0.mk H
          clear H
          go_wp2
          go_meet
          case rel => exact ⟨_, (x7_1), H', ⟨by have := HK1.out; first | omega | exact Nat.le_refl _⟩, ⟨by (with_reducible repeat (first | apply Kd.R_alloc | apply Kd.R_drewN | apply Kd.R_drew)); exact HO_7.out⟩, ⟨by repeat (first | (with_reducible first | exact HB.out | apply below_alloc | apply pw_below_drewN | apply below_drew1) | exact HB.out)⟩⟩
  case rest =>
    clear HC4
    try clear c1
    try clear p1
    try clear q1
    try clear hx1
    try clear c2
    try clear p2
    try clear c3
    try clear c5
    try clear c5b0
    try clear c5b1
    try clear c6
    try clear c6b0
    try clear p6
    try clear c7
    try clear c7b0
    try clear c8
    try clear c11
    try clear c11b0
    try clear c11b1
    try clear p12
    try clear q12
    try clear hx12
    try clear c14
    try clear c15
    try clear c15b0
    try clear c15b1
    try clear c16
    try clear c16b0
    try clear c16b1
    try clear c19
    try clear c19b0
    try clear c19b1
    try clear c23
    try clear c25
    try clear c25b0
    try clear c25b1
    try clear c26
    try clear c29
    try clear c30
    try clear hcz10_0
    try clear hcz10_1
    try clear hcz10_2
    try clear hcz10_3
    try clear hcz10_4
    try clear hcz18_0
    try clear hcz18_1
    try clear hcz18_2
    try clear hcz18_3
    try clear hcz18_4
    try clear hcz21_0
    try clear hcz21_1
    try clear hcz21_2
    try clear hcz21_3
    try clear hcz21_4
    try clear hcz24_0
    try clear hcz24_1
    try clear hcz24_2
    try clear hcz24_3
    try clear hcz24_4
    try clear hcz24_5
    try clear hcz27_0
    try clear hcz27_1
    try clear hcz27_2
    try clear hcz27_3
    try clear hcz27_4
    try clear hcz28_0
    try clear hcz28_1
    try clear hcz28_2
    try clear hcz28_3
    try clear hcz28_4
    try clear hcz28_5
    try clear hcz31_0
    try clear hcz31_1
    try clear hcz31_2
    try clear hcz31_3
    try clear hcz31_4
    try clear hcz31_5
    try clear hfz10_0
    try clear hfz10_1
    try clear hfz10_2
    try clear hfz10_3
    try clear hfz10_4
    try clear hfz18_0
    try clear hfz18_1
    try clear hfz18_2
    try clear hfz18_3
    try clear hfz18_4
    try clear hfz21_0
    try clear hfz21_1
    try clear hfz21_2
    try clear hfz21_3
    try clear hfz21_4
    try clear hfz24_0
    try clear hfz24_1
    try clear hfz24_2
    try clear hfz24_3
    try clear hfz24_4
    try clear hfz24_5
    try clear hfz27_0
    try clear hfz27_1
    try clear hfz27_2
    try clear hfz27_3
    try clear hfz27_4
    try clear hfz28_0
    try clear hfz28_1
    try clear hfz28_2
    try clear hfz28_3
    try clear hfz28_4
    try clear hfz28_5
    try clear hfz31_0
    try clear hfz31_1
    try clear hfz31_2
    try clear hfz31_3
    try clear hfz31_4
    try clear hfz31_5
    try clear hx127_0
    try clear hx127_1
    try clear hx127_2
    try clear hx127_3
    try clear hx127_4
    try clear p1
    try clear p12
    try clear p127
    try clear p2
    try clear p6
    try clear q1
    try clear q12
    try clear q127
    obtain ⟨kq, x7_3, HA, HJ3, HO_7, HB⟩ := hcut
    cases kq with
    | zero => exact absurd HA.out (by simp [insolvencylaw0_Rows.j4])
    | succ kj3 =>
      have H := HA.out
      clear HA
      simp only [insolvencylaw0_Rows.j4] at H
      obtain rfl := Option.some.inj H
      go_wp2
      go_ret
      exact ⟨_, by first | rfl | (simp [errW_none, errW_some] <;> rfl) | (simp [*, errW_none, errW_some] <;> rfl), by (with_reducible repeat (first | apply Kd.R_alloc | apply Kd.R_drewN | apply Kd.R_drew)); exact HO_7.out, by repeat (first | (with_reducible first | exact HB.out | apply below_alloc | apply pw_below_drewN | apply below_drew1) | exact HB.out)⟩

end Go.Proofs.Ytljenpakncmlkaa.PAll
