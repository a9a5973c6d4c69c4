-- PRINTED by a session's own changed print
import Derived.Test.YthljfcojmheopaaPAllx0
import Derived.Test.YthljfcojmheopaaPAllx1
import Derived.Test.YthljfcojmheopaaPAllx2
import Derived.Test.YthljfcojmheopaaPAllx3
namespace Go.Proofs.Ythljfcojmheopaa.PAll
open Go.RowKit Go.Proofs.YthljfcojmheopaaW.PrintWords Go.Proofs.YthljfcojmheopaaW.PrintLast Go.Proofs.YthljfcojmheopaaW.PrintMore
attribute [local go_sem] max2_int min2_int max_two min_two max_three min_three max_four min_four   -- for this text's walks alone
set_option linter.unusedVariables false
set_option linter.unusedSimpArgs false

/-! ### insolvencylaw26_PreferenceExposure: function 3 -/
def insolvencylaw26_PreferenceExposure.j0 : Nat → List (S30) → List (S47) → Int → Int → Int → Int → Bool → Option (Bool)
  | 0, _, _, _, _, _, _, _ => none
  | k + 1, x0, x1, x2, x3, x4, x5, x25 => if x25 = true then ((insolvencylaw26_awake.f k).bind fun t115 => (some t115)) else ((insolvencylaw0_Rows.f k x1 3 20).bind fun t116 => ((insolvencylaw26_awake.f k).bind fun t119 => (if t119 = true then ((preference_Exposure.f k t116 (wrap64 (Int.tmod x2 4)) (wrap64 (Int.tmod x3 4)) (wrap64 (Int.tmod x4 60)) (wrap64 (Int.tmod x5 60))).bind fun t120 => ((insolvencyref25_Exposure.f k t116 (wrap64 (Int.tmod x2 4)) (wrap64 (Int.tmod x3 4)) (wrap64 (Int.tmod x4 60)) (wrap64 (Int.tmod x5 60))).bind fun t121 => (if t120 = t121 then ((preference_Exposure.f k x0 (wrap64 (Int.tmod x2 4)) (wrap64 (Int.tmod x3 4)) (wrap64 (Int.tmod x4 60)) (wrap64 (Int.tmod x5 60))).bind fun t122 => ((insolvencyref25_Exposure.f k x0 (wrap64 (Int.tmod x2 4)) (wrap64 (Int.tmod x3 4)) (wrap64 (Int.tmod x4 60)) (wrap64 (Int.tmod x5 60))).bind fun t123 => (some (t122 == t123)))) else (some false)))) else (some false))))
def insolvencylaw26_PreferenceExposure.f (k : Nat) (l0 : List (S30)) (l1 : List (S47)) (a2 : Int) (a3 : Int) (a4 : Int) (a5 : Int) : Option (Bool) := if (l0.length : Int) > 12 then (insolvencylaw26_PreferenceExposure.j0 k l0 l1 a2 a3 a4 a5 true) else (insolvencylaw26_PreferenceExposure.j0 k l0 l1 a2 a3 a4 a5 (decide ((l1.length : Int) > 24)))
theorem insolvencylaw26_PreferenceExposure.mono_l : ∀ k, (∀ y0 y1 y2 y3 y4 y5 y6, LeO (insolvencylaw26_PreferenceExposure.j0 k y0 y1 y2 y3 y4 y5 y6) (insolvencylaw26_PreferenceExposure.j0 (k + 1) y0 y1 y2 y3 y4 y5 y6))
  | 0 => fun _ _ _ _ _ _ _ r h => by simp [insolvencylaw26_PreferenceExposure.j0] at h
  | k + 1 => by
    have ih0 := insolvencylaw26_PreferenceExposure.mono_l k
    · intro y0 y1 y2 y3 y4 y5 y6
      unfold insolvencylaw26_PreferenceExposure.j0
      repeat' first
      | (with_reducible exact ih0 _ _ _ _ _ _ _)
      | (with_reducible exact insolvencylaw0_Rows.mono _ _ _ _)
      | (with_reducible exact insolvencylaw26_awake.mono _)
      | (with_reducible exact insolvencyref25_Exposure.mono _ _ _ _ _ _)
      | (with_reducible exact preference_Exposure.mono _ _ _ _ _ _)
      | (with_reducible exact LeO.refl _)
      | (with_reducible exact LeO.none _)
      | (with_reducible refine LeO.ite ?_ ?_)
      | (with_reducible refine LeO.bind ?_ (fun _ => ?_))
      | exact ih0 _ _ _ _ _ _ _
      | exact insolvencylaw0_Rows.mono _ _ _ _
      | exact insolvencylaw26_awake.mono _
      | exact insolvencyref25_Exposure.mono _ _ _ _ _ _
      | exact preference_Exposure.mono _ _ _ _ _ _
      | exact LeO.none _
      | refine LeO.ite ?_ ?_
      | refine LeO.bind ?_ (fun _ => ?_)
theorem insolvencylaw26_PreferenceExposure.mono : ∀ a0 a1 a2 a3 a4 a5 k, LeO (insolvencylaw26_PreferenceExposure.f k a0 a1 a2 a3 a4 a5) (insolvencylaw26_PreferenceExposure.f (k + 1) a0 a1 a2 a3 a4 a5) := by
  intro a0 a1 a2 a3 a4 a5 k
  have ih0 := insolvencylaw26_PreferenceExposure.mono_l k
  unfold insolvencylaw26_PreferenceExposure.f
  repeat' first
      | (with_reducible exact ih0 _ _ _ _ _ _ _)
      | (with_reducible exact insolvencylaw0_Rows.mono _ _ _ _)
      | (with_reducible exact insolvencylaw26_awake.mono _)
      | (with_reducible exact insolvencyref25_Exposure.mono _ _ _ _ _ _)
      | (with_reducible exact preference_Exposure.mono _ _ _ _ _ _)
      | (with_reducible exact LeO.refl _)
      | (with_reducible exact LeO.none _)
      | (with_reducible refine LeO.ite ?_ ?_)
      | (with_reducible refine LeO.bind ?_ (fun _ => ?_))
      | exact ih0 _ _ _ _ _ _ _
      | exact insolvencylaw0_Rows.mono _ _ _ _
      | exact insolvencylaw26_awake.mono _
      | exact insolvencyref25_Exposure.mono _ _ _ _ _ _
      | exact preference_Exposure.mono _ _ _ _ _ _
      | exact LeO.none _
      | refine LeO.ite ?_ ?_
      | refine LeO.bind ?_ (fun _ => ?_)
set_option maxHeartbeats 8000000 in
set_option maxRecDepth 100000 in
theorem insolvencylaw26_PreferenceExposure.calls (k : Nat) (A0 : Option Addr) (c0 : Nat) (l0 : List (S30)) (A1 : Option Addr) (c1 : Nat) (l1 : List (S47)) (a2 : Int) (a3 : Int) (a4 : Int) (a5 : Int) (r : Bool) (w : World) (hr0 : Kd.C k30 w A0 l0.length l0) (hc0 : l0.length ≤ c0) (hr1 : Kd.C k47 w A1 l1.length l1) (hc1 : l1.length ≤ c1) (h : insolvencylaw26_PreferenceExposure.f k l0 l1 a2 a3 a4 a5 = some r) :
    Calls Try.prog 3 #[.slice A0 l0.length c0, .slice A1 l1.length c1, .int .i8 a2, .int .i8 a3, .int .u8 a4, .int .u8 a5] w fun e w' => e = .returned (.bool r) ∧ Below w.heap.size w w' := by
  have HR0 := Aside0.mk hr0
  have HC0 := Aside0.mk hc0
  clear hr0 hc0
  have HR1 := Aside0.mk hr1
  have HC1 := Aside0.mk hc1
  clear hr1 hc1
  have HB := Aside0.mk (Below.refl w.heap.size w)
  have H : (if (l0.length : Int) > 12 then (insolvencylaw26_PreferenceExposure.j0 k l0 l1 a2 a3 a4 a5 true) else (insolvencylaw26_PreferenceExposure.j0 k l0 l1 a2 a3 a4 a5 (decide ((l1.length : Int) > 24)))) = some r := h
  clear h
  have HC7 := Aside0.mk H
  clear H
  go_enter Try.func3, Try.ntmps3
  go_upto_region 1 with (fail)
  go_cut [25] (fun v25 wc => ∃ (kq : Nat) (x25_6 : Bool), v25 = .bool x25_6 ∧ Aside0 (insolvencylaw26_PreferenceExposure.j0 kq l0 l1 a2 a3 a4 a5 x25_6 = some r) ∧ Aside0 (kq ≤ k) ∧ Aside0 (Below w.heap.size w wc))
  case first =>
    have H := HC7.out
    clear HC7
    by_cases c8 : (l0.length : Int) > 12
    · rw [if_pos c8] at H
      have c8b0 : decide (12 < (l0.length : Int)) = true := decide_eq_true c8
      have c8b1 : decide (12 < l0.length) = true := decide_eq_true (by omega)
      clear c8
      (first | rw [c8b0] | (simp only [i64_w, i32_w]; rw [c8b0]) | skip)
      have H' := Aside0.mk H
      clear H
      go_wp2
      go_meet
      case rel => exact ⟨_, (true), (by first | rfl | (simp; done) | (simp [*]; done)), H', ⟨by first | omega | exact Nat.le_refl _⟩, ⟨by repeat (first | (with_reducible first | exact HB.out | apply below_alloc | apply pw_below_drewN | apply below_drew1) | exact HB.out)⟩⟩
    · rw [if_neg c8] at H
      have c8b0 : decide (12 < (l0.length : Int)) = false := decide_eq_false c8
      have c8b1 : decide (12 < l0.length) = false := decide_eq_false (by omega)
      clear c8
      (first | rw [c8b0] | (simp only [i64_w, i32_w]; rw [c8b0]) | skip)
      have H' := Aside0.mk H
      clear H
      go_wp2
      go_meet
      case rel => exact ⟨_, (decide ((l1.length : Int) > 24)), (by first | rfl | (simp; done) | (simp [*]; done)), H', ⟨by first | omega | exact Nat.le_refl _⟩, ⟨by repeat (first | (with_reducible first | exact HB.out | apply below_alloc | apply pw_below_drewN | apply below_drew1) | exact HB.out)⟩⟩
  case rest =>
    clear HC7
    try clear c1
    try clear p2
    try clear c3
    try clear c8
    try clear c8b0
    try clear c8b1
    obtain ⟨kq, x25_6, rfl, HA, HJ6, HB⟩ := hcut
    cases kq with
    | zero => exact absurd HA.out (by simp [insolvencylaw26_PreferenceExposure.j0])
    | succ kj6 =>
      have H := HA.out
      clear HA
      simp only [insolvencylaw26_PreferenceExposure.j0] at H
      by_cases c9 : x25_6 = true
      · subst c9
        have H1 : ((insolvencylaw26_awake.f kj6).bind fun t115 => (some t115)) = some r := by rw [if_pos rfl] at H; exact H
        clear H
        have H := H1
        clear H1
        replace H := Option.bind_eq_some_iff.mp H
        obtain ⟨t115, A100, H⟩ := H
        replace H : (some t115) = some r := H
        have A10 := Aside0.mk A100
        clear A100
        obtain rfl := Option.some.inj H
        go_wp2_with (first | ((with_reducible refine gate_callee (f := 9) rfl ?_); refine goesL_ (some 26) rfl rfl Try.func9 (by kernel_rfl) rfl #[] rfl (by (try simp only [List.map_toArray, List.map_cons, List.map_nil]); first | done | rfl | (simp only [List.length_drop, List.length_take]; rfl)) ?_; (with_reducible refine (insolvencylaw26_awake.calls kj6  t115 _ A10.out).mono ?_); rintro e w11 ⟨rfl, hb⟩; refine ⟨_, rfl, ?_⟩; have n0_ := Aside0.mk (below_step (by repeat (first | (with_reducible first | exact HB.out | apply below_alloc | apply pw_below_drewN | apply below_drew1) | exact HB.out)) hb); clear HB; have HB := n0_; clear n0_; (try clear hb); (try clear hb2); (try clear hk); (try clear hi)))
        go_ret
        exact ⟨by first | rfl | (simp [errW_none, errW_some] <;> rfl) | (simp [*, errW_none, errW_some] <;> rfl), by repeat (first | (with_reducible first | exact HB.out | apply below_alloc | apply pw_below_drewN | apply below_drew1) | exact HB.out)⟩
      · replace c9 := Bool.eq_false_iff.mpr c9
        subst c9
        have H1 : ((insolvencylaw0_Rows.f kj6 l1 3 20).bind fun t116 => ((insolvencylaw26_awake.f kj6).bind fun t119 => (if t119 = true then ((preference_Exposure.f kj6 t116 (wrap64 (Int.tmod a2 4)) (wrap64 (Int.tmod a3 4)) (wrap64 (Int.tmod a4 60)) (wrap64 (Int.tmod a5 60))).bind fun t120 => ((insolvencyref25_Exposure.f kj6 t116 (wrap64 (Int.tmod a2 4)) (wrap64 (Int.tmod a3 4)) (wrap64 (Int.tmod a4 60)) (wrap64 (Int.tmod a5 60))).bind fun t121 => (if t120 = t121 then ((preference_Exposure.f kj6 l0 (wrap64 (Int.tmod a2 4)) (wrap64 (Int.tmod a3 4)) (wrap64 (Int.tmod a4 60)) (wrap64 (Int.tmod a5 60))).bind fun t122 => ((insolvencyref25_Exposure.f kj6 l0 (wrap64 (Int.tmod a2 4)) (wrap64 (Int.tmod a3 4)) (wrap64 (Int.tmod a4 60)) (wrap64 (Int.tmod a5 60))).bind fun t123 => (some (t122 == t123)))) else (some false)))) else (some false)))) = some r := by rw [if_neg (show ¬ (false = true) by decide)] at H; exact H
        clear H
        have H := H1
        clear H1
        replace H := Option.bind_eq_some_iff.mp H
        obtain ⟨t116, A120, H⟩ := H
        replace H : ((insolvencylaw26_awake.f kj6).bind fun t119 => (if t119 = true then ((preference_Exposure.f kj6 t116 (wrap64 (Int.tmod a2 4)) (wrap64 (Int.tmod a3 4)) (wrap64 (Int.tmod a4 60)) (wrap64 (Int.tmod a5 60))).bind fun t120 => ((insolvencyref25_Exposure.f kj6 t116 (wrap64 (Int.tmod a2 4)) (wrap64 (Int.tmod a3 4)) (wrap64 (Int.tmod a4 60)) (wrap64 (Int.tmod a5 60))).bind fun t121 => (if t120 = t121 then ((preference_Exposure.f kj6 l0 (wrap64 (Int.tmod a2 4)) (wrap64 (Int.tmod a3 4)) (wrap64 (Int.tmod a4 60)) (wrap64 (Int.tmod a5 60))).bind fun t122 => ((insolvencyref25_Exposure.f kj6 l0 (wrap64 (Int.tmod a2 4)) (wrap64 (Int.tmod a3 4)) (wrap64 (Int.tmod a4 60)) (wrap64 (Int.tmod a5 60))).bind fun t123 => (some (t122 == t123)))) else (some false)))) else (some false))) = some r := H
        have A12 := Aside0.mk A120
        clear A120
        replace H := Option.bind_eq_some_iff.mp H
        obtain ⟨t119, A130, H⟩ := H
        replace H : (if t119 = true then ((preference_Exposure.f kj6 t116 (wrap64 (Int.tmod a2 4)) (wrap64 (Int.tmod a3 4)) (wrap64 (Int.tmod a4 60)) (wrap64 (Int.tmod a5 60))).bind fun t120 => ((insolvencyref25_Exposure.f kj6 t116 (wrap64 (Int.tmod a2 4)) (wrap64 (Int.tmod a3 4)) (wrap64 (Int.tmod a4 60)) (wrap64 (Int.tmod a5 60))).bind fun t121 => (if t120 = t121 then ((preference_Exposure.f kj6 l0 (wrap64 (Int.tmod a2 4)) (wrap64 (Int.tmod a3 4)) (wrap64 (Int.tmod a4 60)) (wrap64 (Int.tmod a5 60))).bind fun t122 => ((insolvencyref25_Exposure.f kj6 l0 (wrap64 (Int.tmod a2 4)) (wrap64 (Int.tmod a3 4)) (wrap64 (Int.tmod a4 60)) (wrap64 (Int.tmod a5 60))).bind fun t123 => (some (t122 == t123)))) else (some false)))) else (some false)) = some r := H
        have A13 := Aside0.mk A130
        clear A130
        by_cases c14 : t119 = true
        · subst c14
          have H1 : ((preference_Exposure.f kj6 t116 (wrap64 (Int.tmod a2 4)) (wrap64 (Int.tmod a3 4)) (wrap64 (Int.tmod a4 60)) (wrap64 (Int.tmod a5 60))).bind fun t120 => ((insolvencyref25_Exposure.f kj6 t116 (wrap64 (Int.tmod a2 4)) (wrap64 (Int.tmod a3 4)) (wrap64 (Int.tmod a4 60)) (wrap64 (Int.tmod a5 60))).bind fun t121 => (if t120 = t121 then ((preference_Exposure.f kj6 l0 (wrap64 (Int.tmod a2 4)) (wrap64 (Int.tmod a3 4)) (wrap64 (Int.tmod a4 60)) (wrap64 (Int.tmod a5 60))).bind fun t122 => ((insolvencyref25_Exposure.f kj6 l0 (wrap64 (Int.tmod a2 4)) (wrap64 (Int.tmod a3 4)) (wrap64 (Int.tmod a4 60)) (wrap64 (Int.tmod a5 60))).bind fun t123 => (some (t122 == t123)))) else (some false)))) = some r := by rw [if_pos rfl] at H; exact H
          clear H
          have H := H1
          clear H1
          replace H := Option.bind_eq_some_iff.mp H
          obtain ⟨t120, A150, H⟩ := H
          replace H : ((insolvencyref25_Exposure.f kj6 t116 (wrap64 (Int.tmod a2 4)) (wrap64 (Int.tmod a3 4)) (wrap64 (Int.tmod a4 60)) (wrap64 (Int.tmod a5 60))).bind fun t121 => (if t120 = t121 then ((preference_Exposure.f kj6 l0 (wrap64 (Int.tmod a2 4)) (wrap64 (Int.tmod a3 4)) (wrap64 (Int.tmod a4 60)) (wrap64 (Int.tmod a5 60))).bind fun t122 => ((insolvencyref25_Exposure.f kj6 l0 (wrap64 (Int.tmod a2 4)) (wrap64 (Int.tmod a3 4)) (wrap64 (Int.tmod a4 60)) (wrap64 (Int.tmod a5 60))).bind fun t123 => (some (t122 == t123)))) else (some false))) = some r := H
          have A15 := Aside0.mk A150
          clear A150
          replace H := Option.bind_eq_some_iff.mp H
          obtain ⟨t121, A160, H⟩ := H
          replace H : (if t120 = t121 then ((preference_Exposure.f kj6 l0 (wrap64 (Int.tmod a2 4)) (wrap64 (Int.tmod a3 4)) (wrap64 (Int.tmod a4 60)) (wrap64 (Int.tmod a5 60))).bind fun t122 => ((insolvencyref25_Exposure.f kj6 l0 (wrap64 (Int.tmod a2 4)) (wrap64 (Int.tmod a3 4)) (wrap64 (Int.tmod a4 60)) (wrap64 (Int.tmod a5 60))).bind fun t123 => (some (t122 == t123)))) else (some false)) = some r := H
          have A16 := Aside0.mk A160
          clear A160
          by_cases c17 : t120 = t121
          · rw [if_pos c17] at H
            have c17b0 : (t120 == t121) = true := beq_iff_eq.mpr c17
            have c17b1 : (t120 != t121) = false := bne_eq_false_iff_eq.mpr c17
            clear c17
            replace H := Option.bind_eq_some_iff.mp H
            obtain ⟨t122, A180, H⟩ := H
            replace H : ((insolvencyref25_Exposure.f kj6 l0 (wrap64 (Int.tmod a2 4)) (wrap64 (Int.tmod a3 4)) (wrap64 (Int.tmod a4 60)) (wrap64 (Int.tmod a5 60))).bind fun t123 => (some (t122 == t123))) = some r := H
            have A18 := Aside0.mk A180
            clear A180
            replace H := Option.bind_eq_some_iff.mp H
            obtain ⟨t123, A190, H⟩ := H
            replace H : (some (t122 == t123)) = some r := H
            have A19 := Aside0.mk A190
            clear A190
            obtain rfl := Option.some.inj H
            go_wp2_with (first | ((with_reducible refine gate_callee (f := 10) rfl ?_); refine goesL_ (some 28) rfl rfl Try.func10 (by kernel_rfl) rfl #[.slice A1 l1.length c1, .int .i64 3, .int .i64 20] rfl (by (try simp only [List.map_toArray, List.map_cons, List.map_nil]); first | done | rfl | (simp only [List.length_drop, List.length_take]; rfl)) ?_; (with_reducible refine (insolvencylaw0_Rows.calls kj6 _ _ l1 3 20 t116 _ ?side1 ?side2 A12.out).mono ?_); (case side1 => repeat (first | exact (Kd.C_below HR1.out HB.out) | (with_reducible refine Kd.C_alloc ?_ _) | (with_reducible refine Kd.C_drewN ?_ _) | (with_reducible refine Kd.C_drew ?_))); (case side2 => exact HC1.out); rintro e w20 ⟨v117, rfl, ho0, hb⟩; refine ⟨_, rfl, ?_⟩; have n0_ := Aside0.mk (Kd.R_lower ho0 (below_size (by repeat (first | (with_reducible first | exact HB.out | apply below_alloc | apply pw_below_drewN | apply below_drew1) | exact HB.out)))); have n1_ := Aside0.mk (below_step (by repeat (first | (with_reducible first | exact HB.out | apply below_alloc | apply pw_below_drewN | apply below_drew1) | exact HB.out)) hb); clear HB; have HO118 := n0_; have HB := n1_; clear n0_ n1_; (try clear hb); (try clear hb2); (try clear hk); (try clear hi); (try clear ho0)) | ((with_reducible refine gate_callee (f := 9) rfl ?_); refine goesL_ (some 41) rfl rfl Try.func9 (by kernel_rfl) rfl #[] rfl (by (try simp only [List.map_toArray, List.map_cons, List.map_nil]); first | done | rfl | (simp only [List.length_drop, List.length_take]; rfl)) ?_; (with_reducible refine (insolvencylaw26_awake.calls kj6  true _ A13.out).mono ?_); rintro e w21 ⟨rfl, hb⟩; refine ⟨_, rfl, ?_⟩; have n0_ := Aside0.mk (Kd.R_below (by (with_reducible repeat (first | apply Kd.R_alloc | apply Kd.R_drewN | apply Kd.R_drew)); exact HO118.out) hb); have n1_ := Aside0.mk (below_step (by repeat (first | (with_reducible first | exact HB.out | apply below_alloc | apply pw_below_drewN | apply below_drew1) | exact HB.out)) hb); clear HO118; clear HB; have HO118 := n0_; have HB := n1_; clear n0_ n1_; (try clear hb); (try clear hb2); (try clear hk); (try clear hi); obtain ⟨Ao22, co22, eo22⟩ := Kd.R_slice HO118.out; subst eo22) | (go_at_call 11; (with_reducible refine (preference_Exposure.calls kj6 _ _ t116 (wrap64 (Int.tmod a2 4)) (wrap64 (Int.tmod a3 4)) (wrap64 (Int.tmod a4 60)) (wrap64 (Int.tmod a5 60)) t120 _ ?side1 ?side2 A15.out).mono ?_); (case side1 => repeat (first | exact (Kd.R_reads' HO118.out).2.2 | (with_reducible refine Kd.C_alloc ?_ _) | (with_reducible refine Kd.C_drewN ?_ _) | (with_reducible refine Kd.C_drew ?_))); (case side2 => exact (Kd.R_reads' HO118.out).2.1); rintro e w23 ⟨rfl, hb⟩; have n0_ := Aside0.mk (Kd.R_below (by (with_reducible repeat (first | apply Kd.R_alloc | apply Kd.R_drewN | apply Kd.R_drew)); exact HO118.out) hb); have n1_ := Aside0.mk (below_step (by repeat (first | (with_reducible first | exact HB.out | apply below_alloc | apply pw_below_drewN | apply below_drew1) | exact HB.out)) hb); clear HO118; clear HB; have HO118 := n0_; have HB := n1_; clear n0_ n1_; (try clear hb); (try clear hb2); (try clear hk); (try clear hi)) | (go_at_call 12; (with_reducible refine (insolvencyref25_Exposure.calls kj6 _ _ t116 (wrap64 (Int.tmod a2 4)) (wrap64 (Int.tmod a3 4)) (wrap64 (Int.tmod a4 60)) (wrap64 (Int.tmod a5 60)) t121 _ ?side1 ?side2 A16.out).mono ?_); (case side1 => repeat (first | exact (Kd.R_reads' HO118.out).2.2 | (with_reducible refine Kd.C_alloc ?_ _) | (with_reducible refine Kd.C_drewN ?_ _) | (with_reducible refine Kd.C_drew ?_))); (case side2 => exact (Kd.R_reads' HO118.out).2.1); rintro e w24 ⟨rfl, hb⟩; have n0_ := Aside0.mk (Kd.R_below (by (with_reducible repeat (first | apply Kd.R_alloc | apply Kd.R_drewN | apply Kd.R_drew)); exact HO118.out) hb); have n1_ := Aside0.mk (below_step (by repeat (first | (with_reducible first | exact HB.out | apply below_alloc | apply pw_below_drewN | apply below_drew1) | exact HB.out)) hb); clear HO118; clear HB; have HO118 := n0_; have HB := n1_; clear n0_ n1_; (try clear hb); (try clear hb2); (try clear hk); (try clear hi)) | (go_at_call 11; (with_reducible refine (preference_Exposure.calls kj6 _ _ l0 (wrap64 (Int.tmod a2 4)) (wrap64 (Int.tmod a3 4)) (wrap64 (Int.tmod a4 60)) (wrap64 (Int.tmod a5 60)) t122 _ ?side1 ?side2 A18.out).mono ?_); (case side1 => repeat (first | exact (Kd.C_below HR0.out HB.out) | (with_reducible refine Kd.C_alloc ?_ _) | (with_reducible refine Kd.C_drewN ?_ _) | (with_reducible refine Kd.C_drew ?_))); (case side2 => exact HC0.out); rintro e w25 ⟨rfl, hb⟩; have n0_ := Aside0.mk (Kd.R_below (by (with_reducible repeat (first | apply Kd.R_alloc | apply Kd.R_drewN | apply Kd.R_drew)); exact HO118.out) hb); have n1_ := Aside0.mk (below_step (by repeat (first | (with_reducible first | exact HB.out | apply below_alloc | apply pw_below_drewN | apply below_drew1) | exact HB.out)) hb); clear HO118; clear HB; have HO118 := n0_; have HB := n1_; clear n0_ n1_; (try clear hb); (try clear hb2); (try clear hk); (try clear hi)) | (go_at_call 12; (with_reducible refine (insolvencyref25_Exposure.calls kj6 _ _ l0 (wrap64 (Int.tmod a2 4)) (wrap64 (Int.tmod a3 4)) (wrap64 (Int.tmod a4 60)) (wrap64 (Int.tmod a5 60)) t123 _ ?side1 ?side2 A19.out).mono ?_); (case side1 => repeat (first | exact (Kd.C_below HR0.out HB.out) | (with_reducible refine Kd.C_alloc ?_ _) | (with_reducible refine Kd.C_drewN ?_ _) | (with_reducible refine Kd.C_drew ?_))); (case side2 => exact HC0.out); rintro e w26 ⟨rfl, hb⟩; have n0_ := Aside0.mk (Kd.R_below (by (with_reducible repeat (first | apply Kd.R_alloc | apply Kd.R_drewN | apply Kd.R_drew)); exact HO118.out) hb); have n1_ := Aside0.mk (below_step (by repeat (first | (with_reducible first | exact HB.out | apply below_alloc | apply pw_below_drewN | apply below_drew1) | exact HB.out)) hb); clear HO118; clear HB; have HO118 := n0_; have HB := n1_; clear n0_ n1_; (try clear hb); (try clear hb2); (try clear hk); (try clear hi)))
            go_ret
            exact ⟨by first | rfl | (simp [errW_none, errW_some] <;> rfl) | (simp [*, errW_none, errW_some] <;> rfl), by repeat (first | (with_reducible first | exact HB.out | apply below_alloc | apply pw_below_drewN | apply below_drew1) | exact HB.out)⟩
          · rw [if_neg c17] at H
            have c17b0 : (t120 == t121) = false := beq_eq_false_iff_ne.mpr c17
            have c17b1 : (t120 != t121) = true := bne_iff_ne.mpr c17
            obtain rfl := Option.some.inj H
            go_wp2_with (first | ((with_reducible refine gate_callee (f := 10) rfl ?_); refine goesL_ (some 28) rfl rfl Try.func10 (by kernel_rfl) rfl #[.slice A1 l1.length c1, .int .i64 3, .int .i64 20] rfl (by (try simp only [List.map_toArray, List.map_cons, List.map_nil]); first | done | rfl | (simp only [List.length_drop, List.length_take]; rfl)) ?_; (with_reducible refine (insolvencylaw0_Rows.calls kj6 _ _ l1 3 20 t116 _ ?side1 ?side2 A12.out).mono ?_); (case side1 => repeat (first | exact (Kd.C_below HR1.out HB.out) | (with_reducible refine Kd.C_alloc ?_ _) | (with_reducible refine Kd.C_drewN ?_ _) | (with_reducible refine Kd.C_drew ?_))); (case side2 => exact HC1.out); rintro e w27 ⟨v117, rfl, ho0, hb⟩; refine ⟨_, rfl, ?_⟩; have n0_ := Aside0.mk (Kd.R_lower ho0 (below_size (by repeat (first | (with_reducible first | exact HB.out | apply below_alloc | apply pw_below_drewN | apply below_drew1) | exact HB.out)))); have n1_ := Aside0.mk (below_step (by repeat (first | (with_reducible first | exact HB.out | apply below_alloc | apply pw_below_drewN | apply below_drew1) | exact HB.out)) hb); clear HB; have HO118 := n0_; have HB := n1_; clear n0_ n1_; (try clear hb); (try clear hb2); (try clear hk); (try clear hi); (try clear ho0)) | ((with_reducible refine gate_callee (f := 9) rfl ?_); refine goesL_ (some 41) rfl rfl Try.func9 (by kernel_rfl) rfl #[] rfl (by (try simp only [List.map_toArray, List.map_cons, List.map_nil]); first | done | rfl | (simp only [List.length_drop, List.length_take]; rfl)) ?_; (with_reducible refine (insolvencylaw26_awake.calls kj6  true _ A13.out).mono ?_); rintro e w28 ⟨rfl, hb⟩; refine ⟨_, rfl, ?_⟩; have n0_ := Aside0.mk (Kd.R_below (by (with_reducible repeat (first | apply Kd.R_alloc | apply Kd.R_drewN | apply Kd.R_drew)); exact HO118.out) hb); have n1_ := Aside0.mk (below_step (by repeat (first | (with_reducible first | exact HB.out | apply below_alloc | apply pw_below_drewN | apply below_drew1) | exact HB.out)) hb); clear HO118; clear HB; have HO118 := n0_; have HB := n1_; clear n0_ n1_; (try clear hb); (try clear hb2); (try clear hk); (try clear hi); obtain ⟨Ao29, co29, eo29⟩ := Kd.R_slice HO118.out; subst eo29) | (go_at_call 11; (with_reducible refine (preference_Exposure.calls kj6 _ _ t116 (wrap64 (Int.tmod a2 4)) (wrap64 (Int.tmod a3 4)) (wrap64 (Int.tmod a4 60)) (wrap64 (Int.tmod a5 60)) t120 _ ?side1 ?side2 A15.out).mono ?_); (case side1 => repeat (first | exact (Kd.R_reads' HO118.out).2.2 | (with_reducible refine Kd.C_alloc ?_ _) | (with_reducible refine Kd.C_drewN ?_ _) | (with_reducible refine Kd.C_drew ?_))); (case side2 => exact (Kd.R_reads' HO118.out).2.1); rintro e w30 ⟨rfl, hb⟩; have n0_ := Aside0.mk (Kd.R_below (by (with_reducible repeat (first | apply Kd.R_alloc | apply Kd.R_drewN | apply Kd.R_drew)); exact HO118.out) hb); have n1_ := Aside0.mk (below_step (by repeat (first | (with_reducible first | exact HB.out | apply below_alloc | apply pw_below_drewN | apply below_drew1) | exact HB.out)) hb); clear HO118; clear HB; have HO118 := n0_; have HB := n1_; clear n0_ n1_; (try clear hb); (try clear hb2); (try clear hk); (try clear hi)) | (go_at_call 12; (with_reducible refine (insolvencyref25_Exposure.calls kj6 _ _ t116 (wrap64 (Int.tmod a2 4)) (wrap64 (Int.tmod a3 4)) (wrap64 (Int.tmod a4 60)) (wrap64 (Int.tmod a5 60)) t121 _ ?side1 ?side2 A16.out).mono ?_); (case side1 => repeat (first | exact (Kd.R_reads' HO118.out).2.2 | (with_reducible refine Kd.C_alloc ?_ _) | (with_reducible refine Kd.C_drewN ?_ _) | (with_reducible refine Kd.C_drew ?_))); (case side2 => exact (Kd.R_reads' HO118.out).2.1); rintro e w31 ⟨rfl, hb⟩; have n0_ := Aside0.mk (Kd.R_below (by (with_reducible repeat (first | apply Kd.R_alloc | apply Kd.R_drewN | apply Kd.R_drew)); exact HO118.out) hb); have n1_ := Aside0.mk (below_step (by repeat (first | (with_reducible first | exact HB.out | apply below_alloc | apply pw_below_drewN | apply below_drew1) | exact HB.out)) hb); clear HO118; clear HB; have HO118 := n0_; have HB := n1_; clear n0_ n1_; (try clear hb); (try clear hb2); (try clear hk); (try clear hi)))
            go_ret
            exact ⟨by first | rfl | (simp [errW_none, errW_some] <;> rfl) | (simp [*, errW_none, errW_some] <;> rfl), by repeat (first | (with_reducible first | exact HB.out | apply below_alloc | apply pw_below_drewN | apply below_drew1) | exact HB.out)⟩
        · replace c14 := Bool.eq_false_iff.mpr c14
          subst c14
          have H1 : (some false) = some r := by rw [if_neg (show ¬ (false = true) by decide)] at H; exact H
          clear H
          have H := H1
          clear H1
          obtain rfl := Option.some.inj H
          go_wp2_with (first | ((with_reducible refine gate_callee (f := 10) rfl ?_); refine goesL_ (some 28) rfl rfl Try.func10 (by kernel_rfl) rfl #[.slice A1 l1.length c1, .int .i64 3, .int .i64 20] rfl (by (try simp only [List.map_toArray, List.map_cons, List.map_nil]); first | done | rfl | (simp only [List.length_drop, List.length_take]; rfl)) ?_; (with_reducible refine (insolvencylaw0_Rows.calls kj6 _ _ l1 3 20 t116 _ ?side1 ?side2 A12.out).mono ?_); (case side1 => repeat (first | exact (Kd.C_below HR1.out HB.out) | (with_reducible refine Kd.C_alloc ?_ _) | (with_reducible refine Kd.C_drewN ?_ _) | (with_reducible refine Kd.C_drew ?_))); (case side2 => exact HC1.out); rintro e w32 ⟨v117, rfl, ho0, hb⟩; refine ⟨_, rfl, ?_⟩; have n0_ := Aside0.mk (Kd.R_lower ho0 (below_size (by repeat (first | (with_reducible first | exact HB.out | apply below_alloc | apply pw_below_drewN | apply below_drew1) | exact HB.out)))); have n1_ := Aside0.mk (below_step (by repeat (first | (with_reducible first | exact HB.out | apply below_alloc | apply pw_below_drewN | apply below_drew1) | exact HB.out)) hb); clear HB; have HO118 := n0_; have HB := n1_; clear n0_ n1_; (try clear hb); (try clear hb2); (try clear hk); (try clear hi); (try clear ho0)) | ((with_reducible refine gate_callee (f := 9) rfl ?_); refine goesL_ (some 41) rfl rfl Try.func9 (by kernel_rfl) rfl #[] rfl (by (try simp only [List.map_toArray, List.map_cons, List.map_nil]); first | done | rfl | (simp only [List.length_drop, List.length_take]; rfl)) ?_; (with_reducible refine (insolvencylaw26_awake.calls kj6  false _ A13.out).mono ?_); rintro e w33 ⟨rfl, hb⟩; refine ⟨_, rfl, ?_⟩; have n0_ := Aside0.mk (Kd.R_below (by (with_reducible repeat (first | apply Kd.R_alloc | apply Kd.R_drewN | apply Kd.R_drew)); exact HO118.out) hb); have n1_ := Aside0.mk (below_step (by repeat (first | (with_reducible first | exact HB.out | apply below_alloc | apply pw_below_drewN | apply below_drew1) | exact HB.out)) hb); clear HO118; clear HB; have HO118 := n0_; have HB := n1_; clear n0_ n1_; (try clear hb); (try clear hb2); (try clear hk); (try clear hi)))
          go_ret
          exact ⟨by first | rfl | (simp [errW_none, errW_some] <;> rfl) | (simp [*, errW_none, errW_some] <;> rfl), by repeat (first | (with_reducible first | exact HB.out | apply below_alloc | apply pw_below_drewN | apply below_drew1) | exact HB.out)⟩

end Go.Proofs.Ythljfcojmheopaa.PAll
