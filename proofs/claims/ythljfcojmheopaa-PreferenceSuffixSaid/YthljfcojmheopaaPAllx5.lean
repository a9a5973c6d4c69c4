-- PRINTED by a session's own changed print
import Derived.Test.YthljfcojmheopaaPAllx0
import Derived.Test.YthljfcojmheopaaPAllx1
import Derived.Test.YthljfcojmheopaaPAllx2
namespace Go.Proofs.Ythljfcojmheopaa.PAll
open Go.RowKit Go.Proofs.YthljfcojmheopaaW.PrintWords Go.Proofs.YthljfcojmheopaaW.PrintLast Go.Proofs.YthljfcojmheopaaW.PrintMore
attribute [local go_sem] max2_int min2_int max_two min_two max_three min_three max_four min_four   -- for this text's walks alone
set_option linter.unusedVariables false
set_option linter.unusedSimpArgs false

/-! ### insolvencylaw26_PreferenceSuffix: function 4 -/
mutual
def insolvencylaw26_PreferenceSuffix.l0 : Nat → List (S30) → Int → Int → Int → Int → Int → Option (Bool)
  | 0, _, _, _, _, _, _ => none
  | k + 1, x7, x8, x9, x10, x11, x12 => if x12 ≥ 0 then (if 0 ≤ x12 then (if x12 < (x7.length : Int) then (if ((rd_T30 x7 x12).f0) < x8 then (insolvencylaw26_PreferenceSuffix.j1 k x7 x8 x9 x10 x11 x12 true ((rd_T30 x7 x12).f0) ((rd_T30 x7 x12).f1) ((rd_T30 x7 x12).f2) ((rd_T30 x7 x12).f3) ((rd_T30 x7 x12).f4) ((rd_T30 x7 x12).f5)) else (if ((rd_T30 x7 x12).f0) > x9 then (insolvencylaw26_PreferenceSuffix.j1 k x7 x8 x9 x10 x11 x12 true ((rd_T30 x7 x12).f0) ((rd_T30 x7 x12).f1) ((rd_T30 x7 x12).f2) ((rd_T30 x7 x12).f3) ((rd_T30 x7 x12).f4) ((rd_T30 x7 x12).f5)) else (insolvencylaw26_PreferenceSuffix.j1 k x7 x8 x9 x10 x11 x12 (((rd_T30 x7 x12).f1) == 3) ((rd_T30 x7 x12).f0) ((rd_T30 x7 x12).f1) ((rd_T30 x7 x12).f2) ((rd_T30 x7 x12).f3) ((rd_T30 x7 x12).f4) ((rd_T30 x7 x12).f5)))) else (none)) else (none)) else ((insolvencylaw26_awake.f k).bind fun t127 => (if t127 = true then ((preference_Exposure.f k x7 0 1 x8 x9).bind fun t128 => (some (t128 == x10))) else (some false)))
def insolvencylaw26_PreferenceSuffix.j1 : Nat → List (S30) → Int → Int → Int → Int → Int → Bool → Int → Int → Int → Int → Int → Int → Option (Bool)
  | 0, _, _, _, _, _, _, _, _, _, _, _, _, _ => none
  | k + 1, x7, x8, x9, x10, x11, x12, x47, x131000, x131001, x131002, x131003, x131004, x131005 => if x47 = true then (insolvencylaw26_PreferenceSuffix.l0 k x7 x8 x9 x10 x11 (wrap64 (x12 - 1))) else (if x131001 = 1 then (if x131002 = 0 then (insolvencylaw26_PreferenceSuffix.j2 k x7 x8 x9 x10 x11 x12 (x131003 == 1) x131000 x131001 x131002 x131003 x131004 x131005) else (insolvencylaw26_PreferenceSuffix.j2 k x7 x8 x9 x10 x11 x12 false x131000 x131001 x131002 x131003 x131004 x131005)) else (insolvencylaw26_PreferenceSuffix.j2 k x7 x8 x9 x10 x11 x12 false x131000 x131001 x131002 x131003 x131004 x131005))
def insolvencylaw26_PreferenceSuffix.j2 : Nat → List (S30) → Int → Int → Int → Int → Int → Bool → Int → Int → Int → Int → Int → Int → Option (Bool)
  | 0, _, _, _, _, _, _, _, _, _, _, _, _, _ => none
  | k + 1, x7, x8, x9, x10, x11, x12, x60, x131000, x131001, x131002, x131003, x131004, x131005 => if x60 = true then (if x131002 = 1 then (if x131003 = 0 then (insolvencylaw26_PreferenceSuffix.l0 k x7 x8 x9 (mx x10 (wrap64 ((wrap64 (x11 + x131004)) - x131004))) (wrap64 ((wrap64 (x11 + x131004)) - x131004)) (wrap64 (x12 - 1))) else (insolvencylaw26_PreferenceSuffix.l0 k x7 x8 x9 (mx x10 (wrap64 (x11 + x131004))) (wrap64 (x11 + x131004)) (wrap64 (x12 - 1)))) else (insolvencylaw26_PreferenceSuffix.l0 k x7 x8 x9 (mx x10 (wrap64 (x11 + x131004))) (wrap64 (x11 + x131004)) (wrap64 (x12 - 1)))) else (if x131002 = 1 then (if x131003 = 0 then (insolvencylaw26_PreferenceSuffix.l0 k x7 x8 x9 (mx x10 (wrap64 (x11 - x131004))) (wrap64 (x11 - x131004)) (wrap64 (x12 - 1))) else (insolvencylaw26_PreferenceSuffix.l0 k x7 x8 x9 (mx x10 x11) x11 (wrap64 (x12 - 1)))) else (insolvencylaw26_PreferenceSuffix.l0 k x7 x8 x9 (mx x10 x11) x11 (wrap64 (x12 - 1))))
end
def insolvencylaw26_PreferenceSuffix.f (k : Nat) (l0 : List (S47)) (a1 : Int) (a2 : Int) : Option (Bool) := (insolvencylaw0_Rows.f k l0 3 20).bind fun t124 => (insolvencylaw26_PreferenceSuffix.l0 k t124 (wrap64 (Int.tmod a1 30)) (wrap64 (Int.tmod a2 60)) 0 0 (wrap64 ((t124.length : Int) - 1)))
theorem insolvencylaw26_PreferenceSuffix.mono_l : ∀ k, (∀ y0 y1 y2 y3 y4 y5, LeO (insolvencylaw26_PreferenceSuffix.l0 k y0 y1 y2 y3 y4 y5) (insolvencylaw26_PreferenceSuffix.l0 (k + 1) y0 y1 y2 y3 y4 y5)) ∧ (∀ y0 y1 y2 y3 y4 y5 y6 y7 y8 y9 y10 y11 y12, LeO (insolvencylaw26_PreferenceSuffix.j1 k y0 y1 y2 y3 y4 y5 y6 y7 y8 y9 y10 y11 y12) (insolvencylaw26_PreferenceSuffix.j1 (k + 1) y0 y1 y2 y3 y4 y5 y6 y7 y8 y9 y10 y11 y12)) ∧ (∀ y0 y1 y2 y3 y4 y5 y6 y7 y8 y9 y10 y11 y12, LeO (insolvencylaw26_PreferenceSuffix.j2 k y0 y1 y2 y3 y4 y5 y6 y7 y8 y9 y10 y11 y12) (insolvencylaw26_PreferenceSuffix.j2 (k + 1) y0 y1 y2 y3 y4 y5 y6 y7 y8 y9 y10 y11 y12))
  | 0 => ⟨fun _ _ _ _ _ _ r h => by simp [insolvencylaw26_PreferenceSuffix.l0] at h, fun _ _ _ _ _ _ _ _ _ _ _ _ _ r h => by simp [insolvencylaw26_PreferenceSuffix.j1] at h, fun _ _ _ _ _ _ _ _ _ _ _ _ _ r h => by simp [insolvencylaw26_PreferenceSuffix.j2] at h⟩
  | k + 1 => by
    obtain ⟨ih0, ih1, ih2⟩ := insolvencylaw26_PreferenceSuffix.mono_l k
    refine ⟨?_, ?_, ?_⟩
    · intro y0 y1 y2 y3 y4 y5
      unfold insolvencylaw26_PreferenceSuffix.l0
      repeat' first
      | (with_reducible exact ih0 _ _ _ _ _ _)
      | (with_reducible exact ih1 _ _ _ _ _ _ _ _ _ _ _ _ _)
      | (with_reducible exact ih2 _ _ _ _ _ _ _ _ _ _ _ _ _)
      | (with_reducible exact insolvencylaw0_Rows.mono _ _ _ _)
      | (with_reducible exact insolvencylaw26_awake.mono _)
      | (with_reducible exact preference_Exposure.mono _ _ _ _ _ _)
      | (with_reducible exact LeO.refl _)
      | (with_reducible exact LeO.none _)
      | (with_reducible refine LeO.ite ?_ ?_)
      | (with_reducible refine LeO.bind ?_ (fun _ => ?_))
      | exact ih0 _ _ _ _ _ _
      | exact ih1 _ _ _ _ _ _ _ _ _ _ _ _ _
      | exact ih2 _ _ _ _ _ _ _ _ _ _ _ _ _
      | exact insolvencylaw0_Rows.mono _ _ _ _
      | exact insolvencylaw26_awake.mono _
      | exact preference_Exposure.mono _ _ _ _ _ _
      | exact LeO.none _
      | refine LeO.ite ?_ ?_
      | refine LeO.bind ?_ (fun _ => ?_)
    · intro y0 y1 y2 y3 y4 y5 y6 y7 y8 y9 y10 y11 y12
      unfold insolvencylaw26_PreferenceSuffix.j1
      repeat' first
      | (with_reducible exact ih0 _ _ _ _ _ _)
      | (with_reducible exact ih1 _ _ _ _ _ _ _ _ _ _ _ _ _)
      | (with_reducible exact ih2 _ _ _ _ _ _ _ _ _ _ _ _ _)
      | (with_reducible exact insolvencylaw0_Rows.mono _ _ _ _)
      | (with_reducible exact insolvencylaw26_awake.mono _)
      | (with_reducible exact preference_Exposure.mono _ _ _ _ _ _)
      | (with_reducible exact LeO.refl _)
      | (with_reducible exact LeO.none _)
      | (with_reducible refine LeO.ite ?_ ?_)
      | (with_reducible refine LeO.bind ?_ (fun _ => ?_))
      | exact ih0 _ _ _ _ _ _
      | exact ih1 _ _ _ _ _ _ _ _ _ _ _ _ _
      | exact ih2 _ _ _ _ _ _ _ _ _ _ _ _ _
      | exact insolvencylaw0_Rows.mono _ _ _ _
      | exact insolvencylaw26_awake.mono _
      | exact preference_Exposure.mono _ _ _ _ _ _
      | exact LeO.none _
      | refine LeO.ite ?_ ?_
      | refine LeO.bind ?_ (fun _ => ?_)
    · intro y0 y1 y2 y3 y4 y5 y6 y7 y8 y9 y10 y11 y12
      unfold insolvencylaw26_PreferenceSuffix.j2
      repeat' first
      | (with_reducible exact ih0 _ _ _ _ _ _)
      | (with_reducible exact ih1 _ _ _ _ _ _ _ _ _ _ _ _ _)
      | (with_reducible exact ih2 _ _ _ _ _ _ _ _ _ _ _ _ _)
      | (with_reducible exact insolvencylaw0_Rows.mono _ _ _ _)
      | (with_reducible exact insolvencylaw26_awake.mono _)
      | (with_reducible exact preference_Exposure.mono _ _ _ _ _ _)
      | (with_reducible exact LeO.refl _)
      | (with_reducible exact LeO.none _)
      | (with_reducible refine LeO.ite ?_ ?_)
      | (with_reducible refine LeO.bind ?_ (fun _ => ?_))
      | exact ih0 _ _ _ _ _ _
      | exact ih1 _ _ _ _ _ _ _ _ _ _ _ _ _
      | exact ih2 _ _ _ _ _ _ _ _ _ _ _ _ _
      | exact insolvencylaw0_Rows.mono _ _ _ _
      | exact insolvencylaw26_awake.mono _
      | exact preference_Exposure.mono _ _ _ _ _ _
      | exact LeO.none _
      | refine LeO.ite ?_ ?_
      | refine LeO.bind ?_ (fun _ => ?_)
theorem insolvencylaw26_PreferenceSuffix.mono : ∀ a0 a1 a2 k, LeO (insolvencylaw26_PreferenceSuffix.f k a0 a1 a2) (insolvencylaw26_PreferenceSuffix.f (k + 1) a0 a1 a2) := by
  intro a0 a1 a2 k
  obtain ⟨ih0, ih1, ih2⟩ := insolvencylaw26_PreferenceSuffix.mono_l k
  unfold insolvencylaw26_PreferenceSuffix.f
  repeat' first
      | (with_reducible exact ih0 _ _ _ _ _ _)
      | (with_reducible exact ih1 _ _ _ _ _ _ _ _ _ _ _ _ _)
      | (with_reducible exact ih2 _ _ _ _ _ _ _ _ _ _ _ _ _)
      | (with_reducible exact insolvencylaw0_Rows.mono _ _ _ _)
      | (with_reducible exact insolvencylaw26_awake.mono _)
      | (with_reducible exact preference_Exposure.mono _ _ _ _ _ _)
      | (with_reducible exact LeO.refl _)
      | (with_reducible exact LeO.none _)
      | (with_reducible refine LeO.ite ?_ ?_)
      | (with_reducible refine LeO.bind ?_ (fun _ => ?_))
      | exact ih0 _ _ _ _ _ _
      | exact ih1 _ _ _ _ _ _ _ _ _ _ _ _ _
      | exact ih2 _ _ _ _ _ _ _ _ _ _ _ _ _
      | exact insolvencylaw0_Rows.mono _ _ _ _
      | exact insolvencylaw26_awake.mono _
      | exact preference_Exposure.mono _ _ _ _ _ _
      | exact LeO.none _
      | refine LeO.ite ?_ ?_
      | refine LeO.bind ?_ (fun _ => ?_)
set_option maxHeartbeats 8000000 in
set_option maxRecDepth 100000 in
theorem insolvencylaw26_PreferenceSuffix.calls (k : Nat) (A0 : Option Addr) (c0 : Nat) (l0 : List (S47)) (a1 : Int) (a2 : Int) (r : Bool) (w : World) (hr0 : Kd.C k47 w A0 l0.length l0) (hc0 : l0.length ≤ c0) (h : insolvencylaw26_PreferenceSuffix.f k l0 a1 a2 = some r) :
    Calls Try.prog 4 #[.slice A0 l0.length c0, .int .u8 a1, .int .u8 a2] w fun e w' => e = .returned (.bool r) ∧ Below w.heap.size w w' := by
  have hu30 := Try.underlying30
  have HR0 := Aside0.mk hr0
  have HC0 := Aside0.mk hc0
  clear hr0 hc0
  have HB := Aside0.mk (Below.refl w.heap.size w)
  have H : ((insolvencylaw0_Rows.f k l0 3 20).bind fun t124 => (insolvencylaw26_PreferenceSuffix.l0 k t124 (wrap64 (Int.tmod a1 30)) (wrap64 (Int.tmod a2 60)) 0 0 (wrap64 ((t124.length : Int) - 1)))) = some r := h
  clear h
  replace H := Option.bind_eq_some_iff.mp H
  obtain ⟨t124, A40, H⟩ := H
  replace H : (insolvencylaw26_PreferenceSuffix.l0 k t124 (wrap64 (Int.tmod a1 30)) (wrap64 (Int.tmod a2 60)) 0 0 (wrap64 ((t124.length : Int) - 1))) = some r := H
  have A4 := Aside0.mk A40
  clear A40
  have H' := Aside0.mk H
  clear H
  go_enter Try.func4, Try.ntmps4
  go_wp2_with (first | ((with_reducible refine gate_callee (f := 10) rfl ?_); refine goesL_ (some 15) rfl rfl Try.func10 (by kernel_rfl) rfl #[.slice A0 l0.length c0, .int .i64 3, .int .i64 20] rfl (by (try simp only [List.map_toArray, List.map_cons, List.map_nil]); first | done | rfl | (simp only [List.length_drop, List.length_take]; rfl)) ?_; (with_reducible refine (insolvencylaw0_Rows.calls k _ _ l0 3 20 t124 _ ?side1 ?side2 A4.out).mono ?_); (case side1 => repeat (first | exact HR0.out | (with_reducible refine Kd.C_alloc ?_ _) | (with_reducible refine Kd.C_drewN ?_ _) | (with_reducible refine Kd.C_drew ?_))); (case side2 => exact HC0.out); rintro e w5 ⟨v125, rfl, ho0, hb⟩; refine ⟨_, rfl, ?_⟩; have n0_ := Aside0.mk (Kd.R_lower ho0 (below_size (by repeat (first | (with_reducible first | exact HB.out | apply below_alloc | apply pw_below_drewN | apply below_drew1) | exact HB.out)))); have n1_ := Aside0.mk (below_step (by repeat (first | (with_reducible first | exact HB.out | apply below_alloc | apply pw_below_drewN | apply below_drew1) | exact HB.out)) hb); clear HB; have HO126 := n0_; have HB := n1_; clear n0_ n1_; (try clear hb); (try clear hb2); (try clear hk); (try clear hi); (try clear ho0); obtain ⟨Ao6, co6, eo6⟩ := Kd.R_slice HO126.out; subst eo6))
  go_loopg [10, 11, 12] k (fun kq v10 v11 v12 w' => ∃ (x10_1 : Int) (x11_1 : Int) (x12_1 : Int), v10 = .int .i64 x10_1 ∧ v11 = .int .i64 x11_1 ∧ v12 = .int .i64 x12_1 ∧ Aside0 (insolvencylaw26_PreferenceSuffix.l0 kq t124 (wrap64 (Int.tmod a1 30)) (wrap64 (Int.tmod a2 60)) x10_1 x11_1 x12_1 = some r) ∧ Aside0 (kq ≤ k) ∧ Aside0 (Kd.R k30 30 w' w.heap.size (fun _ => True) (.slice Ao6 t124.length co6) t124) ∧ Aside0 (Below w.heap.size w w'))
  case atStart => exact ⟨(0), (0), (wrap64 ((t124.length : Int) - 1)), (by first | rfl | (simp; done) | (simp [*]; done)), (by first | rfl | (simp; done) | (simp [*]; done)), (by first | rfl | (simp; done) | (simp [*]; done)), H', ⟨Nat.le_refl _⟩, ⟨by (with_reducible repeat (first | apply Kd.R_alloc | apply Kd.R_drewN | apply Kd.R_drew)); exact HO126.out⟩, ⟨by repeat (first | (with_reducible first | exact HB.out | apply below_alloc | apply pw_below_drewN | apply below_drew1) | exact HB.out)⟩⟩
  case round =>
    clear H'
    try clear c1
    try clear p2
    try clear c4
    try clear p6
    obtain ⟨x10_1, x11_1, x12_1, rfl, rfl, rfl, HA, HK1, HO_7, HB⟩ := hrel
    cases gk with
    | zero => exact absurd HA.out (by simp [insolvencylaw26_PreferenceSuffix.l0])
    | succ k1 =>
      have H := HA.out
      clear HA
      simp only [insolvencylaw26_PreferenceSuffix.l0] at H
      by_cases c7 : x12_1 ≥ 0
      · rw [if_pos c7] at H
        have c7b0 : decide (0 ≤ x12_1) = true := decide_eq_true c7
        clear c7
        by_cases c8 : 0 ≤ x12_1
        · rw [if_pos c8] at H
          have c8b0 : decide (0 ≤ x12_1) = true := decide_eq_true c8
          clear c8
          by_cases c9 : x12_1 < (t124.length : Int)
          · rw [if_pos c9] at H
            have c9b0 : decide (x12_1 < (t124.length : Int)) = true := decide_eq_true c9
            clear c9
            have HC10 := Aside0.mk H
            clear H
            have p129 : 0 ≤ (x12_1 : Int) := of_decide_eq_true (by first | (with_reducible assumption) | assumption)
            have q129 : x12_1 < (t124.length : Int) := of_decide_eq_true (by first | (with_reducible assumption) | assumption)
            obtain ⟨ad129, e129, hx129_0, hx129_1, hx129_2, hx129_3, hx129_4, hx129_5⟩ := at_T30 (Kd.R_reads' HO_7.out).2.2 x12_1 p129 q129
            cases e129
            replace p129 := eq_true p129
            replace q129 := eq_true q129
            go_upto_region 9 with (first | ((with_reducible refine gate_dst (N := 13) rfl ?_); refine box_event ?hg (N := 13) ?hd (cs := #[.int .i64 0, .int .i64 0, .int .i64 0, .int .i64 0, .int .i64 0, .int .i64 0]) (t := 30) ?hr ?_; (case hd => rfl); (case hg => rfl); (case hr => first | (go_simp; done) | (go_simp; rfl)); intro gb130 hg w11 hbox hb; have n0_ := Aside0.mk (Kd.R_below (Kd.R_elderB (by (with_reducible repeat (first | apply Kd.R_alloc | apply Kd.R_drewN | apply Kd.R_drew)); exact HO_7.out) gb130 (Nat.le_of_eq hg.symm)) hb); have n1_ := Aside0.mk (below_step (by repeat (first | (with_reducible first | exact HB.out | apply below_alloc | apply pw_below_drewN | apply below_drew1) | exact HB.out)) hb); have n2_ := Aside0.mk (hbox); have n3_ := Aside0.mk ((by rw [hg]; exact (below_size (by repeat (first | (with_reducible first | exact HB.out | apply below_alloc | apply pw_below_drewN | apply below_drew1) | exact HB.out))) : w.heap.size ≤ gb130)); have n4_ := Aside0.mk ((by rw [hg]; exact (below_size (by repeat (first | (with_reducible first | exact HB.out | apply below_alloc | apply pw_below_drewN | apply below_drew1) | exact HB.out))) : w.heap.size ≤ gb130)); clear HO_7; clear HB; have HO_7 := n0_; have HB := n1_; have BK130 := n2_; have GW130 := n3_; have GE130 := n4_; clear n0_ n1_ n2_ n3_ n4_; clear hb hbox hg; have hcz12_0 : w11.cell? ⟨gb130, 0, none⟩ = some (.int .i64 0) := (blk_cell BK130.out 0).trans rfl; have hcz12_1 : w11.cell? ⟨gb130, 1, none⟩ = some (.int .i64 0) := (blk_cell BK130.out 1).trans rfl; have hcz12_2 : w11.cell? ⟨gb130, 2, none⟩ = some (.int .i64 0) := (blk_cell BK130.out 2).trans rfl; have hcz12_3 : w11.cell? ⟨gb130, 3, none⟩ = some (.int .i64 0) := (blk_cell BK130.out 3).trans rfl; have hcz12_4 : w11.cell? ⟨gb130, 4, none⟩ = some (.int .i64 0) := (blk_cell BK130.out 4).trans rfl; have hcz12_5 : w11.cell? ⟨gb130, 5, none⟩ = some (.int .i64 0) := (blk_cell BK130.out 5).trans rfl; have hfz12_0 := blk_frozen BK130.out 0; have hfz12_1 := blk_frozen BK130.out 1; have hfz12_2 := blk_frozen BK130.out 2; have hfz12_3 := blk_frozen BK130.out 3; have hfz12_4 := blk_frozen BK130.out 4; have hfz12_5 := blk_frozen BK130.out 5))
            (try simp only [Act.put, List.setIfInBounds_toArray, List.set_cons_zero, List.set_cons_succ])
            go_cut [47] (fun v47 wc => ∃ (kq : Nat) (x47_9 : Bool), v47 = .bool x47_9 ∧ Aside0 (insolvencylaw26_PreferenceSuffix.j1 kq t124 (wrap64 (Int.tmod a1 30)) (wrap64 (Int.tmod a2 60)) x10_1 x11_1 x12_1 x47_9 ((rd_T30 t124 x12_1).f0) ((rd_T30 t124 x12_1).f1) ((rd_T30 t124 x12_1).f2) ((rd_T30 t124 x12_1).f3) ((rd_T30 t124 x12_1).f4) ((rd_T30 t124 x12_1).f5) = some r) ∧ Aside0 (kq ≤ k1) ∧ Aside0 (Kd.R k30 30 wc w.heap.size (fun k_ => k_ ≠ gb130) (.slice (some ad129) t124.length co6) t124) ∧ Aside0 (wc.heap[gb130]? = some (.cells #[.int .i64 ((rd_T30 t124 x12_1).f0), .int .i64 ((rd_T30 t124 x12_1).f1), .int .i64 ((rd_T30 t124 x12_1).f2), .int .i64 ((rd_T30 t124 x12_1).f3), .int .i64 ((rd_T30 t124 x12_1).f4), .int .i64 ((rd_T30 t124 x12_1).f5)] 30 (0, 0))) ∧ Aside0 (Below w.heap.size w wc))
            case first =>
              have H := HC10.out
              clear HC10
              by_cases c13 : ((rd_T30 t124 x12_1).f0) < (wrap64 (Int.tmod a1 30))
              · rw [if_pos c13] at H
                have c13b0 : decide (((rd_T30 t124 x12_1).f0) < (wrap64 (Int.tmod a1 30))) = true := decide_eq_true c13
                clear c13
                (first | rw [c13b0] | (simp only [i64_w, i32_w]; rw [c13b0]) | skip)
                have H' := Aside0.mk H
                clear H
                have hcz14_0 : w11.cell? ⟨gb130, 0, none⟩ = some (.int .i64 0) := (blk_cell BK130.out 0).trans rfl
                have hcz14_1 : w11.cell? ⟨gb130, 1, none⟩ = some (.int .i64 0) := (blk_cell BK130.out 1).trans rfl
                have hcz14_2 : w11.cell? ⟨gb130, 2, none⟩ = some (.int .i64 0) := (blk_cell BK130.out 2).trans rfl
                have hcz14_3 : w11.cell? ⟨gb130, 3, none⟩ = some (.int .i64 0) := (blk_cell BK130.out 3).trans rfl
                have hcz14_4 : w11.cell? ⟨gb130, 4, none⟩ = some (.int .i64 0) := (blk_cell BK130.out 4).trans rfl
                have hcz14_5 : w11.cell? ⟨gb130, 5, none⟩ = some (.int .i64 0) := (blk_cell BK130.out 5).trans rfl
                have hfz14_0 := blk_frozen BK130.out 0
                have hfz14_1 := blk_frozen BK130.out 1
                have hfz14_2 := blk_frozen BK130.out 2
                have hfz14_3 := blk_frozen BK130.out 3
                have hfz14_4 := blk_frozen BK130.out 4
                have hfz14_5 := blk_frozen BK130.out 5
                go_wp2
                go_meet
                case rel => exact ⟨_, (true), (by first | rfl | (simp; done) | (simp [*]; done)), H', ⟨by have := HK1.out; first | omega | exact Nat.le_refl _⟩, ⟨by (with_reducible repeat (first | apply Kd.R_alloc | apply Kd.R_drewN | apply Kd.R_drew)); exact Kd.R_mono (Kd.R_far (p := ⟨gb130, 5, none⟩) (Kd.R_far (p := ⟨gb130, 4, none⟩) (Kd.R_far (p := ⟨gb130, 3, none⟩) (Kd.R_far (p := ⟨gb130, 2, none⟩) (Kd.R_far (p := ⟨gb130, 1, none⟩) (Kd.R_far (p := ⟨gb130, 0, none⟩) (Kd.R_mono HO_7.out (fun k_ hk => (⟨hk, hk.2⟩ : _ ∧ k_ ≠ gb130))) (fun _ hk => hk.2) (.int .i64 ((rd_T30 t124 x12_1).f0))) (fun _ hk => hk.2) (.int .i64 ((rd_T30 t124 x12_1).f1))) (fun _ hk => hk.2) (.int .i64 ((rd_T30 t124 x12_1).f2))) (fun _ hk => hk.2) (.int .i64 ((rd_T30 t124 x12_1).f3))) (fun _ hk => hk.2) (.int .i64 ((rd_T30 t124 x12_1).f4))) (fun _ hk => hk.2) (.int .i64 ((rd_T30 t124 x12_1).f5))) (fun _ hk => hk.1.2)⟩, ⟨by (with_reducible repeat (first | refine blk_drewN ?_ _ | refine blk_drew ?_ | refine blk_alloc ?_ _)); refine blk_put (cs := #[.int .i64 ((rd_T30 t124 x12_1).f0), .int .i64 ((rd_T30 t124 x12_1).f1), .int .i64 ((rd_T30 t124 x12_1).f2), .int .i64 ((rd_T30 t124 x12_1).f3), .int .i64 ((rd_T30 t124 x12_1).f4), .int .i64 0]) ?_ 5 _ rfl; (with_reducible repeat (first | refine blk_drewN ?_ _ | refine blk_drew ?_ | refine blk_alloc ?_ _)); refine blk_put (cs := #[.int .i64 ((rd_T30 t124 x12_1).f0), .int .i64 ((rd_T30 t124 x12_1).f1), .int .i64 ((rd_T30 t124 x12_1).f2), .int .i64 ((rd_T30 t124 x12_1).f3), .int .i64 0, .int .i64 0]) ?_ 4 _ rfl; (with_reducible repeat (first | refine blk_drewN ?_ _ | refine blk_drew ?_ | refine blk_alloc ?_ _)); refine blk_put (cs := #[.int .i64 ((rd_T30 t124 x12_1).f0), .int .i64 ((rd_T30 t124 x12_1).f1), .int .i64 ((rd_T30 t124 x12_1).f2), .int .i64 0, .int .i64 0, .int .i64 0]) ?_ 3 _ rfl; (with_reducible repeat (first | refine blk_drewN ?_ _ | refine blk_drew ?_ | refine blk_alloc ?_ _)); refine blk_put (cs := #[.int .i64 ((rd_T30 t124 x12_1).f0), .int .i64 ((rd_T30 t124 x12_1).f1), .int .i64 0, .int .i64 0, .int .i64 0, .int .i64 0]) ?_ 2 _ rfl; (with_reducible repeat (first | refine blk_drewN ?_ _ | refine blk_drew ?_ | refine blk_alloc ?_ _)); refine blk_put (cs := #[.int .i64 ((rd_T30 t124 x12_1).f0), .int .i64 0, .int .i64 0, .int .i64 0, .int .i64 0, .int .i64 0]) ?_ 1 _ rfl; (with_reducible repeat (first | refine blk_drewN ?_ _ | refine blk_drew ?_ | refine blk_alloc ?_ _)); refine blk_put (cs := #[.int .i64 0, .int .i64 0, .int .i64 0, .int .i64 0, .int .i64 0, .int .i64 0]) ?_ 0 _ rfl; (with_reducible repeat (first | refine blk_drewN ?_ _ | refine blk_drew ?_ | refine blk_alloc ?_ _)); exact BK130.out⟩, ⟨by repeat (first | (with_reducible first | exact HB.out | apply below_alloc | apply pw_below_drewN | apply below_drew1 | refine below_set ?_ GE130.out) | exact HB.out)⟩⟩
              · rw [if_neg c13] at H
                have c13b0 : decide (((rd_T30 t124 x12_1).f0) < (wrap64 (Int.tmod a1 30))) = false := decide_eq_false c13
                clear c13
                (first | rw [c13b0] | (simp only [i64_w, i32_w]; rw [c13b0]) | skip)
                by_cases c15 : ((rd_T30 t124 x12_1).f0) > (wrap64 (Int.tmod a2 60))
                · rw [if_pos c15] at H
                  have c15b0 : decide ((wrap64 (Int.tmod a2 60)) < ((rd_T30 t124 x12_1).f0)) = true := decide_eq_true c15
                  clear c15
                  have H' := Aside0.mk H
                  clear H
                  have hcz16_0 : w11.cell? ⟨gb130, 0, none⟩ = some (.int .i64 0) := (blk_cell BK130.out 0).trans rfl
                  have hcz16_1 : w11.cell? ⟨gb130, 1, none⟩ = some (.int .i64 0) := (blk_cell BK130.out 1).trans rfl
                  have hcz16_2 : w11.cell? ⟨gb130, 2, none⟩ = some (.int .i64 0) := (blk_cell BK130.out 2).trans rfl
                  have hcz16_3 : w11.cell? ⟨gb130, 3, none⟩ = some (.int .i64 0) := (blk_cell BK130.out 3).trans rfl
                  have hcz16_4 : w11.cell? ⟨gb130, 4, none⟩ = some (.int .i64 0) := (blk_cell BK130.out 4).trans rfl
                  have hcz16_5 : w11.cell? ⟨gb130, 5, none⟩ = some (.int .i64 0) := (blk_cell BK130.out 5).trans rfl
                  have hfz16_0 := blk_frozen BK130.out 0
                  have hfz16_1 := blk_frozen BK130.out 1
                  have hfz16_2 := blk_frozen BK130.out 2
                  have hfz16_3 := blk_frozen BK130.out 3
                  have hfz16_4 := blk_frozen BK130.out 4
                  have hfz16_5 := blk_frozen BK130.out 5
                  go_wp2
                  go_meet
                  case rel => exact ⟨_, (true), (by first | rfl | (simp; done) | (simp [*]; done)), H', ⟨by have := HK1.out; first | omega | exact Nat.le_refl _⟩, ⟨by (with_reducible repeat (first | apply Kd.R_alloc | apply Kd.R_drewN | apply Kd.R_drew)); exact Kd.R_mono (Kd.R_far (p := ⟨gb130, 5, none⟩) (Kd.R_far (p := ⟨gb130, 4, none⟩) (Kd.R_far (p := ⟨gb130, 3, none⟩) (Kd.R_far (p := ⟨gb130, 2, none⟩) (Kd.R_far (p := ⟨gb130, 1, none⟩) (Kd.R_far (p := ⟨gb130, 0, none⟩) (Kd.R_mono HO_7.out (fun k_ hk => (⟨hk, hk.2⟩ : _ ∧ k_ ≠ gb130))) (fun _ hk => hk.2) (.int .i64 ((rd_T30 t124 x12_1).f0))) (fun _ hk => hk.2) (.int .i64 ((rd_T30 t124 x12_1).f1))) (fun _ hk => hk.2) (.int .i64 ((rd_T30 t124 x12_1).f2))) (fun _ hk => hk.2) (.int .i64 ((rd_T30 t124 x12_1).f3))) (fun _ hk => hk.2) (.int .i64 ((rd_T30 t124 x12_1).f4))) (fun _ hk => hk.2) (.int .i64 ((rd_T30 t124 x12_1).f5))) (fun _ hk => hk.1.2)⟩, ⟨by (with_reducible repeat (first | refine blk_drewN ?_ _ | refine blk_drew ?_ | refine blk_alloc ?_ _)); refine blk_put (cs := #[.int .i64 ((rd_T30 t124 x12_1).f0), .int .i64 ((rd_T30 t124 x12_1).f1), .int .i64 ((rd_T30 t124 x12_1).f2), .int .i64 ((rd_T30 t124 x12_1).f3), .int .i64 ((rd_T30 t124 x12_1).f4), .int .i64 0]) ?_ 5 _ rfl; (with_reducible repeat (first | refine blk_drewN ?_ _ | refine blk_drew ?_ | refine blk_alloc ?_ _)); refine blk_put (cs := #[.int .i64 ((rd_T30 t124 x12_1).f0), .int .i64 ((rd_T30 t124 x12_1).f1), .int .i64 ((rd_T30 t124 x12_1).f2), .int .i64 ((rd_T30 t124 x12_1).f3), .int .i64 0, .int .i64 0]) ?_ 4 _ rfl; (with_reducible repeat (first | refine blk_drewN ?_ _ | refine blk_drew ?_ | refine blk_alloc ?_ _)); refine blk_put (cs := #[.int .i64 ((rd_T30 t124 x12_1).f0), .int .i64 ((rd_T30 t124 x12_1).f1), .int .i64 ((rd_T30 t124 x12_1).f2), .int .i64 0, .int .i64 0, .int .i64 0]) ?_ 3 _ rfl; (with_reducible repeat (first | refine blk_drewN ?_ _ | refine blk_drew ?_ | refine blk_alloc ?_ _)); refine blk_put (cs := #[.int .i64 ((rd_T30 t124 x12_1).f0), .int .i64 ((rd_T30 t124 x12_1).f1), .int .i64 0, .int .i64 0, .int .i64 0, .int .i64 0]) ?_ 2 _ rfl; (with_reducible repeat (first | refine blk_drewN ?_ _ | refine blk_drew ?_ | refine blk_alloc ?_ _)); refine blk_put (cs := #[.int .i64 ((rd_T30 t124 x12_1).f0), .int .i64 0, .int .i64 0, .int .i64 0, .int .i64 0, .int .i64 0]) ?_ 1 _ rfl; (with_reducible repeat (first | refine blk_drewN ?_ _ | refine blk_drew ?_ | refine blk_alloc ?_ _)); refine blk_put (cs := #[.int .i64 0, .int .i64 0, .int .i64 0, .int .i64 0, .int .i64 0, .int .i64 0]) ?_ 0 _ rfl; (with_reducible repeat (first | refine blk_drewN ?_ _ | refine blk_drew ?_ | refine blk_alloc ?_ _)); exact BK130.out⟩, ⟨by repeat (first | (with_reducible first | exact HB.out | apply below_alloc | apply pw_below_drewN | apply below_drew1 | refine below_set ?_ GE130.out) | exact HB.out)⟩⟩
                · rw [if_neg c15] at H
                  have c15b0 : decide ((wrap64 (Int.tmod a2 60)) < ((rd_T30 t124 x12_1).f0)) = false := decide_eq_false c15
                  clear c15
                  have H' := Aside0.mk H
                  clear H
                  have hcz17_0 : w11.cell? ⟨gb130, 0, none⟩ = some (.int .i64 0) := (blk_cell BK130.out 0).trans rfl
                  have hcz17_1 : w11.cell? ⟨gb130, 1, none⟩ = some (.int .i64 0) := (blk_cell BK130.out 1).trans rfl
                  have hcz17_2 : w11.cell? ⟨gb130, 2, none⟩ = some (.int .i64 0) := (blk_cell BK130.out 2).trans rfl
                  have hcz17_3 : w11.cell? ⟨gb130, 3, none⟩ = some (.int .i64 0) := (blk_cell BK130.out 3).trans rfl
                  have hcz17_4 : w11.cell? ⟨gb130, 4, none⟩ = some (.int .i64 0) := (blk_cell BK130.out 4).trans rfl
                  have hcz17_5 : w11.cell? ⟨gb130, 5, none⟩ = some (.int .i64 0) := (blk_cell BK130.out 5).trans rfl
                  have hfz17_0 := blk_frozen BK130.out 0
                  have hfz17_1 := blk_frozen BK130.out 1
                  have hfz17_2 := blk_frozen BK130.out 2
                  have hfz17_3 := blk_frozen BK130.out 3
                  have hfz17_4 := blk_frozen BK130.out 4
                  have hfz17_5 := blk_frozen BK130.out 5
                  go_wp2
                  go_meet
                  case rel => exact ⟨_, ((((rd_T30 t124 x12_1).f1) == 3)), (by first | rfl | (simp; done) | (simp [*]; done)), H', ⟨by have := HK1.out; first | omega | exact Nat.le_refl _⟩, ⟨by (with_reducible repeat (first | apply Kd.R_alloc | apply Kd.R_drewN | apply Kd.R_drew)); exact Kd.R_mono (Kd.R_far (p := ⟨gb130, 5, none⟩) (Kd.R_far (p := ⟨gb130, 4, none⟩) (Kd.R_far (p := ⟨gb130, 3, none⟩) (Kd.R_far (p := ⟨gb130, 2, none⟩) (Kd.R_far (p := ⟨gb130, 1, none⟩) (Kd.R_far (p := ⟨gb130, 0, none⟩) (Kd.R_mono HO_7.out (fun k_ hk => (⟨hk, hk.2⟩ : _ ∧ k_ ≠ gb130))) (fun _ hk => hk.2) (.int .i64 ((rd_T30 t124 x12_1).f0))) (fun _ hk => hk.2) (.int .i64 ((rd_T30 t124 x12_1).f1))) (fun _ hk => hk.2) (.int .i64 ((rd_T30 t124 x12_1).f2))) (fun _ hk => hk.2) (.int .i64 ((rd_T30 t124 x12_1).f3))) (fun _ hk => hk.2) (.int .i64 ((rd_T30 t124 x12_1).f4))) (fun _ hk => hk.2) (.int .i64 ((rd_T30 t124 x12_1).f5))) (fun _ hk => hk.1.2)⟩, ⟨by (with_reducible repeat (first | refine blk_drewN ?_ _ | refine blk_drew ?_ | refine blk_alloc ?_ _)); refine blk_put (cs := #[.int .i64 ((rd_T30 t124 x12_1).f0), .int .i64 ((rd_T30 t124 x12_1).f1), .int .i64 ((rd_T30 t124 x12_1).f2), .int .i64 ((rd_T30 t124 x12_1).f3), .int .i64 ((rd_T30 t124 x12_1).f4), .int .i64 0]) ?_ 5 _ rfl; (with_reducible repeat (first | refine blk_drewN ?_ _ | refine blk_drew ?_ | refine blk_alloc ?_ _)); refine blk_put (cs := #[.int .i64 ((rd_T30 t124 x12_1).f0), .int .i64 ((rd_T30 t124 x12_1).f1), .int .i64 ((rd_T30 t124 x12_1).f2), .int .i64 ((rd_T30 t124 x12_1).f3), .int .i64 0, .int .i64 0]) ?_ 4 _ rfl; (with_reducible repeat (first | refine blk_drewN ?_ _ | refine blk_drew ?_ | refine blk_alloc ?_ _)); refine blk_put (cs := #[.int .i64 ((rd_T30 t124 x12_1).f0), .int .i64 ((rd_T30 t124 x12_1).f1), .int .i64 ((rd_T30 t124 x12_1).f2), .int .i64 0, .int .i64 0, .int .i64 0]) ?_ 3 _ rfl; (with_reducible repeat (first | refine blk_drewN ?_ _ | refine blk_drew ?_ | refine blk_alloc ?_ _)); refine blk_put (cs := #[.int .i64 ((rd_T30 t124 x12_1).f0), .int .i64 ((rd_T30 t124 x12_1).f1), .int .i64 0, .int .i64 0, .int .i64 0, .int .i64 0]) ?_ 2 _ rfl; (with_reducible repeat (first | refine blk_drewN ?_ _ | refine blk_drew ?_ | refine blk_alloc ?_ _)); refine blk_put (cs := #[.int .i64 ((rd_T30 t124 x12_1).f0), .int .i64 0, .int .i64 0, .int .i64 0, .int .i64 0, .int .i64 0]) ?_ 1 _ rfl; (with_reducible repeat (first | refine blk_drewN ?_ _ | refine blk_drew ?_ | refine blk_alloc ?_ _)); refine blk_put (cs := #[.int .i64 0, .int .i64 0, .int .i64 0, .int .i64 0, .int .i64 0, .int .i64 0]) ?_ 0 _ rfl; (with_reducible repeat (first | refine blk_drewN ?_ _ | refine blk_drew ?_ | refine blk_alloc ?_ _)); exact BK130.out⟩, ⟨by repeat (first | (with_reducible first | exact HB.out | apply below_alloc | apply pw_below_drewN | apply below_drew1 | refine below_set ?_ GE130.out) | exact HB.out)⟩⟩
            case rest =>
              clear HC10
              try clear c1
              try clear p1
              try clear q1
              try clear hx1
              try clear p2
              try clear c4
              try clear p6
              try clear c7
              try clear c7b0
              try clear c8
              try clear c8b0
              try clear c9
              try clear c9b0
              try clear c10
              try clear p12
              try clear q12
              try clear hx12
              try clear c13
              try clear c13b0
              try clear c15
              try clear c15b0
              try clear hcz12_0
              try clear hcz12_1
              try clear hcz12_2
              try clear hcz12_3
              try clear hcz12_4
              try clear hcz12_5
              try clear hcz14_0
              try clear hcz14_1
              try clear hcz14_2
              try clear hcz14_3
              try clear hcz14_4
              try clear hcz14_5
              try clear hcz16_0
              try clear hcz16_1
              try clear hcz16_2
              try clear hcz16_3
              try clear hcz16_4
              try clear hcz16_5
              try clear hcz17_0
              try clear hcz17_1
              try clear hcz17_2
              try clear hcz17_3
              try clear hcz17_4
              try clear hcz17_5
              try clear hfz12_0
              try clear hfz12_1
              try clear hfz12_2
              try clear hfz12_3
              try clear hfz12_4
              try clear hfz12_5
              try clear hfz14_0
              try clear hfz14_1
              try clear hfz14_2
              try clear hfz14_3
              try clear hfz14_4
              try clear hfz14_5
              try clear hfz16_0
              try clear hfz16_1
              try clear hfz16_2
              try clear hfz16_3
              try clear hfz16_4
              try clear hfz16_5
              try clear hfz17_0
              try clear hfz17_1
              try clear hfz17_2
              try clear hfz17_3
              try clear hfz17_4
              try clear hfz17_5
              try clear hx129_0
              try clear hx129_1
              try clear hx129_2
              try clear hx129_3
              try clear hx129_4
              try clear hx129_5
              try clear p129
              try clear p2
              try clear p6
              try clear q129
              obtain ⟨kq, x47_9, rfl, HA, HJ9, HO_7, BK130, HB⟩ := hcut
              cases kq with
              | zero => exact absurd HA.out (by simp [insolvencylaw26_PreferenceSuffix.j1])
              | succ kj9 =>
                have H := HA.out
                clear HA
                simp only [insolvencylaw26_PreferenceSuffix.j1] at H
                by_cases c18 : x47_9 = true
                · subst c18
                  have H1 : (insolvencylaw26_PreferenceSuffix.l0 kj9 t124 (wrap64 (Int.tmod a1 30)) (wrap64 (Int.tmod a2 60)) x10_1 x11_1 (wrap64 (x12_1 - 1))) = some r := by rw [if_pos rfl] at H; exact H
                  clear H
                  have H := H1
                  clear H1
                  have H' := Aside0.mk H
                  clear H
                  go_wp2
                  go_roundg kj9
                  case measure => have := HK1.out; have := HJ9.out; omega
                  case rel => exact ⟨(x10_1), (x11_1), (wrap64 (x12_1 - 1)), (by first | rfl | (simp; done) | (simp [*]; done)), (by first | rfl | (simp; done) | (simp [*]; done)), (by first | rfl | (simp; done) | (simp [*]; done)), H', ⟨by have := HK1.out; have := HJ9.out; omega⟩, ⟨by (with_reducible repeat (first | apply Kd.R_alloc | apply Kd.R_drewN | apply Kd.R_drew)); exact Kd.R_mono HO_7.out (fun _ hk => trivial)⟩, ⟨by repeat (first | (with_reducible first | exact HB.out | apply below_alloc | apply pw_below_drewN | apply below_drew1 | refine below_set ?_ GE130.out) | exact HB.out)⟩⟩
                · replace c18 := Bool.eq_false_iff.mpr c18
                  subst c18
                  have H1 : (if ((rd_T30 t124 x12_1).f1) = 1 then (if ((rd_T30 t124 x12_1).f2) = 0 then (insolvencylaw26_PreferenceSuffix.j2 kj9 t124 (wrap64 (Int.tmod a1 30)) (wrap64 (Int.tmod a2 60)) x10_1 x11_1 x12_1 (((rd_T30 t124 x12_1).f3) == 1) ((rd_T30 t124 x12_1).f0) ((rd_T30 t124 x12_1).f1) ((rd_T30 t124 x12_1).f2) ((rd_T30 t124 x12_1).f3) ((rd_T30 t124 x12_1).f4) ((rd_T30 t124 x12_1).f5)) else (insolvencylaw26_PreferenceSuffix.j2 kj9 t124 (wrap64 (Int.tmod a1 30)) (wrap64 (Int.tmod a2 60)) x10_1 x11_1 x12_1 false ((rd_T30 t124 x12_1).f0) ((rd_T30 t124 x12_1).f1) ((rd_T30 t124 x12_1).f2) ((rd_T30 t124 x12_1).f3) ((rd_T30 t124 x12_1).f4) ((rd_T30 t124 x12_1).f5))) else (insolvencylaw26_PreferenceSuffix.j2 kj9 t124 (wrap64 (Int.tmod a1 30)) (wrap64 (Int.tmod a2 60)) x10_1 x11_1 x12_1 false ((rd_T30 t124 x12_1).f0) ((rd_T30 t124 x12_1).f1) ((rd_T30 t124 x12_1).f2) ((rd_T30 t124 x12_1).f3) ((rd_T30 t124 x12_1).f4) ((rd_T30 t124 x12_1).f5))) = some r := by rw [if_neg (show ¬ (false = true) by decide)] at H; exact H
                  clear H
                  have H := H1
                  clear H1
                  have HC19 := Aside0.mk H
                  clear H
                  go_upto_region 10 with (fail)
                  go_cut [60] (fun v60 wc => ∃ (kq : Nat) (x60_18 : Bool), v60 = .bool x60_18 ∧ Aside0 (insolvencylaw26_PreferenceSuffix.j2 kq t124 (wrap64 (Int.tmod a1 30)) (wrap64 (Int.tmod a2 60)) x10_1 x11_1 x12_1 x60_18 ((rd_T30 t124 x12_1).f0) ((rd_T30 t124 x12_1).f1) ((rd_T30 t124 x12_1).f2) ((rd_T30 t124 x12_1).f3) ((rd_T30 t124 x12_1).f4) ((rd_T30 t124 x12_1).f5) = some r) ∧ Aside0 (kq ≤ kj9) ∧ Aside0 (Kd.R k30 30 wc w.heap.size (fun k_ => k_ ≠ gb130) (.slice (some ad129) t124.length co6) t124) ∧ Aside0 (wc.heap[gb130]? = some (.cells #[.int .i64 ((rd_T30 t124 x12_1).f0), .int .i64 ((rd_T30 t124 x12_1).f1), .int .i64 ((rd_T30 t124 x12_1).f2), .int .i64 ((rd_T30 t124 x12_1).f3), .int .i64 ((rd_T30 t124 x12_1).f4), .int .i64 ((rd_T30 t124 x12_1).f5)] 30 (0, 0))) ∧ Aside0 (Below w.heap.size w wc))
                  case first =>
                    have H := HC19.out
                    clear HC19
                    by_cases c20 : ((rd_T30 t124 x12_1).f1) = 1
                    · rw [if_pos c20] at H
                      have c20b0 : (((rd_T30 t124 x12_1).f1) == 1) = true := beq_iff_eq.mpr c20
                      have c20b1 : (((rd_T30 t124 x12_1).f1) != 1) = false := bne_eq_false_iff_eq.mpr c20
                      clear c20
                      (first | rw [c20b0] | (simp only [i64_w, i32_w]; rw [c20b0]) | skip)
                      by_cases c21 : ((rd_T30 t124 x12_1).f2) = 0
                      · rw [if_pos c21] at H
                        have c21b0 : (((rd_T30 t124 x12_1).f2) == 0) = true := beq_iff_eq.mpr c21
                        have c21b1 : (((rd_T30 t124 x12_1).f2) != 0) = false := bne_eq_false_iff_eq.mpr c21
                        clear c21
                        have H' := Aside0.mk H
                        clear H
                        have hcz22_0 : wc.cell? ⟨gb130, 0, none⟩ = some (.int .i64 ((rd_T30 t124 x12_1).f0)) := (blk_cell BK130.out 0).trans rfl
                        have hcz22_1 : wc.cell? ⟨gb130, 1, none⟩ = some (.int .i64 ((rd_T30 t124 x12_1).f1)) := (blk_cell BK130.out 1).trans rfl
                        have hcz22_2 : wc.cell? ⟨gb130, 2, none⟩ = some (.int .i64 ((rd_T30 t124 x12_1).f2)) := (blk_cell BK130.out 2).trans rfl
                        have hcz22_3 : wc.cell? ⟨gb130, 3, none⟩ = some (.int .i64 ((rd_T30 t124 x12_1).f3)) := (blk_cell BK130.out 3).trans rfl
                        have hcz22_4 : wc.cell? ⟨gb130, 4, none⟩ = some (.int .i64 ((rd_T30 t124 x12_1).f4)) := (blk_cell BK130.out 4).trans rfl
                        have hcz22_5 : wc.cell? ⟨gb130, 5, none⟩ = some (.int .i64 ((rd_T30 t124 x12_1).f5)) := (blk_cell BK130.out 5).trans rfl
                        have hfz22_0 := blk_frozen BK130.out 0
                        have hfz22_1 := blk_frozen BK130.out 1
                        have hfz22_2 := blk_frozen BK130.out 2
                        have hfz22_3 := blk_frozen BK130.out 3
                        have hfz22_4 := blk_frozen BK130.out 4
                        have hfz22_5 := blk_frozen BK130.out 5
                        go_wp2
                        go_meet
                        case rel => exact ⟨_, ((((rd_T30 t124 x12_1).f3) == 1)), (by first | rfl | (simp; done) | (simp [*]; done)), H', ⟨by have := HK1.out; have := HJ9.out; first | omega | exact Nat.le_refl _⟩, ⟨by (with_reducible repeat (first | apply Kd.R_alloc | apply Kd.R_drewN | apply Kd.R_drew)); exact HO_7.out⟩, ⟨by (with_reducible repeat (first | refine blk_drewN ?_ _ | refine blk_drew ?_ | refine blk_alloc ?_ _)); exact BK130.out⟩, ⟨by repeat (first | (with_reducible first | exact HB.out | apply below_alloc | apply pw_below_drewN | apply below_drew1 | refine below_set ?_ GE130.out) | exact HB.out)⟩⟩
                      · rw [if_neg c21] at H
                        have c21b0 : (((rd_T30 t124 x12_1).f2) == 0) = false := beq_eq_false_iff_ne.mpr c21
                        have c21b1 : (((rd_T30 t124 x12_1).f2) != 0) = true := bne_iff_ne.mpr c21
                        have H' := Aside0.mk H
                        clear H
                        have hcz23_0 : wc.cell? ⟨gb130, 0, none⟩ = some (.int .i64 ((rd_T30 t124 x12_1).f0)) := (blk_cell BK130.out 0).trans rfl
                        have hcz23_1 : wc.cell? ⟨gb130, 1, none⟩ = some (.int .i64 ((rd_T30 t124 x12_1).f1)) := (blk_cell BK130.out 1).trans rfl
                        have hcz23_2 : wc.cell? ⟨gb130, 2, none⟩ = some (.int .i64 ((rd_T30 t124 x12_1).f2)) := (blk_cell BK130.out 2).trans rfl
                        have hcz23_3 : wc.cell? ⟨gb130, 3, none⟩ = some (.int .i64 ((rd_T30 t124 x12_1).f3)) := (blk_cell BK130.out 3).trans rfl
                        have hcz23_4 : wc.cell? ⟨gb130, 4, none⟩ = some (.int .i64 ((rd_T30 t124 x12_1).f4)) := (blk_cell BK130.out 4).trans rfl
                        have hcz23_5 : wc.cell? ⟨gb130, 5, none⟩ = some (.int .i64 ((rd_T30 t124 x12_1).f5)) := (blk_cell BK130.out 5).trans rfl
                        have hfz23_0 := blk_frozen BK130.out 0
                        have hfz23_1 := blk_frozen BK130.out 1
                        have hfz23_2 := blk_frozen BK130.out 2
                        have hfz23_3 := blk_frozen BK130.out 3
                        have hfz23_4 := blk_frozen BK130.out 4
                        have hfz23_5 := blk_frozen BK130.out 5
                        go_wp2
                        go_meet
                        case rel => exact ⟨_, (false), (by first | rfl | (simp; done) | (simp [*]; done)), H', ⟨by have := HK1.out; have := HJ9.out; first | omega | exact Nat.le_refl _⟩, ⟨by (with_reducible repeat (first | apply Kd.R_alloc | apply Kd.R_drewN | apply Kd.R_drew)); exact HO_7.out⟩, ⟨by (with_reducible repeat (first | refine blk_drewN ?_ _ | refine blk_drew ?_ | refine blk_alloc ?_ _)); exact BK130.out⟩, ⟨by repeat (first | (with_reducible first | exact HB.out | apply below_alloc | apply pw_below_drewN | apply below_drew1 | refine below_set ?_ GE130.out) | exact HB.out)⟩⟩
                    · rw [if_neg c20] at H
                      have c20b0 : (((rd_T30 t124 x12_1).f1) == 1) = false := beq_eq_false_iff_ne.mpr c20
                      have c20b1 : (((rd_T30 t124 x12_1).f1) != 1) = true := bne_iff_ne.mpr c20
                      (first | rw [c20b0] | (simp only [i64_w, i32_w]; rw [c20b0]) | skip)
                      have H' := Aside0.mk H
                      clear H
                      have hcz24_0 : wc.cell? ⟨gb130, 0, none⟩ = some (.int .i64 ((rd_T30 t124 x12_1).f0)) := (blk_cell BK130.out 0).trans rfl
                      have hcz24_1 : wc.cell? ⟨gb130, 1, none⟩ = some (.int .i64 ((rd_T30 t124 x12_1).f1)) := (blk_cell BK130.out 1).trans rfl
                      have hcz24_2 : wc.cell? ⟨gb130, 2, none⟩ = some (.int .i64 ((rd_T30 t124 x12_1).f2)) := (blk_cell BK130.out 2).trans rfl
                      have hcz24_3 : wc.cell? ⟨gb130, 3, none⟩ = some (.int .i64 ((rd_T30 t124 x12_1).f3)) := (blk_cell BK130.out 3).trans rfl
                      have hcz24_4 : wc.cell? ⟨gb130, 4, none⟩ = some (.int .i64 ((rd_T30 t124 x12_1).f4)) := (blk_cell BK130.out 4).trans rfl
                      have hcz24_5 : wc.cell? ⟨gb130, 5, none⟩ = some (.int .i64 ((rd_T30 t124 x12_1).f5)) := (blk_cell BK130.out 5).trans rfl
                      have hfz24_0 := blk_frozen BK130.out 0
                      have hfz24_1 := blk_frozen BK130.out 1
                      have hfz24_2 := blk_frozen BK130.out 2
                      have hfz24_3 := blk_frozen BK130.out 3
                      have hfz24_4 := blk_frozen BK130.out 4
                      have hfz24_5 := blk_frozen BK130.out 5
                      go_wp2
                      go_meet
                      case rel => exact ⟨_, (false), (by first | rfl | (simp; done) | (simp [*]; done)), H', ⟨by have := HK1.out; have := HJ9.out; first | omega | exact Nat.le_refl _⟩, ⟨by (with_reducible repeat (first | apply Kd.R_alloc | apply Kd.R_drewN | apply Kd.R_drew)); exact HO_7.out⟩, ⟨by (with_reducible repeat (first | refine blk_drewN ?_ _ | refine blk_drew ?_ | refine blk_alloc ?_ _)); exact BK130.out⟩, ⟨by repeat (first | (with_reducible first | exact HB.out | apply below_alloc | apply pw_below_drewN | apply below_drew1 | refine below_set ?_ GE130.out) | exact HB.out)⟩⟩
                  case rest =>
                    clear HC19
                    try clear c1
                    try clear p1
                    try clear q1
                    try clear hx1
                    try clear c2
                    try clear p2
                    try clear c4
                    try clear p6
                    try clear c7
                    try clear c7b0
                    try clear c8
                    try clear c8b0
                    try clear c9
                    try clear c9b0
                    try clear c10
                    try clear p12
                    try clear q12
                    try clear hx12
                    try clear c13
                    try clear c13b0
                    try clear c15
                    try clear c15b0
                    try clear c18
                    try clear c20
                    try clear c20b0
                    try clear c20b1
                    try clear c21
                    try clear c21b0
                    try clear c21b1
                    try clear hcz12_0
                    try clear hcz12_1
                    try clear hcz12_2
                    try clear hcz12_3
                    try clear hcz12_4
                    try clear hcz12_5
                    try clear hcz14_0
                    try clear hcz14_1
                    try clear hcz14_2
                    try clear hcz14_3
                    try clear hcz14_4
                    try clear hcz14_5
                    try clear hcz16_0
                    try clear hcz16_1
                    try clear hcz16_2
                    try clear hcz16_3
                    try clear hcz16_4
                    try clear hcz16_5
                    try clear hcz17_0
                    try clear hcz17_1
                    try clear hcz17_2
                    try clear hcz17_3
                    try clear hcz17_4
                    try clear hcz17_5
                    try clear hcz22_0
                    try clear hcz22_1
                    try clear hcz22_2
                    try clear hcz22_3
                    try clear hcz22_4
                    try clear hcz22_5
                    try clear hcz23_0
                    try clear hcz23_1
                    try clear hcz23_2
                    try clear hcz23_3
                    try clear hcz23_4
                    try clear hcz23_5
                    try clear hcz24_0
                    try clear hcz24_1
                    try clear hcz24_2
                    try clear hcz24_3
                    try clear hcz24_4
                    try clear hcz24_5
                    try clear hfz12_0
                    try clear hfz12_1
                    try clear hfz12_2
                    try clear hfz12_3
                    try clear hfz12_4
                    try clear hfz12_5
                    try clear hfz14_0
                    try clear hfz14_1
                    try clear hfz14_2
                    try clear hfz14_3
                    try clear hfz14_4
                    try clear hfz14_5
                    try clear hfz16_0
                    try clear hfz16_1
                    try clear hfz16_2
                    try clear hfz16_3
                    try clear hfz16_4
                    try clear hfz16_5
                    try clear hfz17_0
                    try clear hfz17_1
                    try clear hfz17_2
                    try clear hfz17_3
                    try clear hfz17_4
                    try clear hfz17_5
                    try clear hfz22_0
                    try clear hfz22_1
                    try clear hfz22_2
                    try clear hfz22_3
                    try clear hfz22_4
                    try clear hfz22_5
                    try clear hfz23_0
                    try clear hfz23_1
                    try clear hfz23_2
                    try clear hfz23_3
                    try clear hfz23_4
                    try clear hfz23_5
                    try clear hfz24_0
                    try clear hfz24_1
                    try clear hfz24_2
                    try clear hfz24_3
                    try clear hfz24_4
                    try clear hfz24_5
                    try clear hx129_0
                    try clear hx129_1
                    try clear hx129_2
                    try clear hx129_3
                    try clear hx129_4
                    try clear hx129_5
                    try clear p1
                    try clear p12
                    try clear p129
                    try clear p2
                    try clear p6
                    try clear q1
                    try clear q12
                    try clear q129
                    obtain ⟨kq, x60_18, rfl, HA, HJ18, HO_7, BK130, HB⟩ := hcut
                    cases kq with
                    | zero => exact absurd HA.out (by simp [insolvencylaw26_PreferenceSuffix.j2])
                    | succ kj18 =>
                      have H := HA.out
                      clear HA
                      simp only [insolvencylaw26_PreferenceSuffix.j2] at H
                      by_cases c25 : x60_18 = true
                      · subst c25
                        have H1 : (if ((rd_T30 t124 x12_1).f2) = 1 then (if ((rd_T30 t124 x12_1).f3) = 0 then (insolvencylaw26_PreferenceSuffix.l0 kj18 t124 (wrap64 (Int.tmod a1 30)) (wrap64 (Int.tmod a2 60)) (mx x10_1 (wrap64 ((wrap64 (x11_1 + ((rd_T30 t124 x12_1).f4))) - ((rd_T30 t124 x12_1).f4)))) (wrap64 ((wrap64 (x11_1 + ((rd_T30 t124 x12_1).f4))) - ((rd_T30 t124 x12_1).f4))) (wrap64 (x12_1 - 1))) else (insolvencylaw26_PreferenceSuffix.l0 kj18 t124 (wrap64 (Int.tmod a1 30)) (wrap64 (Int.tmod a2 60)) (mx x10_1 (wrap64 (x11_1 + ((rd_T30 t124 x12_1).f4)))) (wrap64 (x11_1 + ((rd_T30 t124 x12_1).f4))) (wrap64 (x12_1 - 1)))) else (insolvencylaw26_PreferenceSuffix.l0 kj18 t124 (wrap64 (Int.tmod a1 30)) (wrap64 (Int.tmod a2 60)) (mx x10_1 (wrap64 (x11_1 + ((rd_T30 t124 x12_1).f4)))) (wrap64 (x11_1 + ((rd_T30 t124 x12_1).f4))) (wrap64 (x12_1 - 1)))) = some r := by rw [if_pos rfl] at H; exact H
                        clear H
                        have H := H1
                        clear H1
                        by_cases c26 : ((rd_T30 t124 x12_1).f2) = 1
                        · rw [if_pos c26] at H
                          have c26b0 : (((rd_T30 t124 x12_1).f2) == 1) = true := beq_iff_eq.mpr c26
                          have c26b1 : (((rd_T30 t124 x12_1).f2) != 1) = false := bne_eq_false_iff_eq.mpr c26
                          clear c26
                          by_cases c27 : ((rd_T30 t124 x12_1).f3) = 0
                          · rw [if_pos c27] at H
                            have c27b0 : (((rd_T30 t124 x12_1).f3) == 0) = true := beq_iff_eq.mpr c27
                            have c27b1 : (((rd_T30 t124 x12_1).f3) != 0) = false := bne_eq_false_iff_eq.mpr c27
                            clear c27
                            obtain ⟨ji28, hji28⟩ : ∃ j_ : Int, (mx x10_1 (wrap64 ((wrap64 (x11_1 + ((rd_T30 t124 x12_1).f4))) - ((rd_T30 t124 x12_1).f4)))) = j_ := ⟨_, rfl⟩
                            replace H : (insolvencylaw26_PreferenceSuffix.l0 kj18 t124 (wrap64 (Int.tmod a1 30)) (wrap64 (Int.tmod a2 60)) ji28 (wrap64 ((wrap64 (x11_1 + ((rd_T30 t124 x12_1).f4))) - ((rd_T30 t124 x12_1).f4))) (wrap64 (x12_1 - 1))) = some r := by first | (rw [hji28] at H; exact H) | (simp only [hji28] at H ⊢; exact H)
                            have hji28_ : (if x10_1 < (wrap64 ((wrap64 (x11_1 + ((rd_T30 t124 x12_1).f4))) - ((rd_T30 t124 x12_1).f4))) then (wrap64 ((wrap64 (x11_1 + ((rd_T30 t124 x12_1).f4))) - ((rd_T30 t124 x12_1).f4))) else x10_1) = ji28 := hji28
                            have H' := Aside0.mk H
                            clear H
                            have hcz29_0 : wc.cell? ⟨gb130, 0, none⟩ = some (.int .i64 ((rd_T30 t124 x12_1).f0)) := (blk_cell BK130.out 0).trans rfl
                            have hcz29_1 : wc.cell? ⟨gb130, 1, none⟩ = some (.int .i64 ((rd_T30 t124 x12_1).f1)) := (blk_cell BK130.out 1).trans rfl
                            have hcz29_2 : wc.cell? ⟨gb130, 2, none⟩ = some (.int .i64 ((rd_T30 t124 x12_1).f2)) := (blk_cell BK130.out 2).trans rfl
                            have hcz29_3 : wc.cell? ⟨gb130, 3, none⟩ = some (.int .i64 ((rd_T30 t124 x12_1).f3)) := (blk_cell BK130.out 3).trans rfl
                            have hcz29_4 : wc.cell? ⟨gb130, 4, none⟩ = some (.int .i64 ((rd_T30 t124 x12_1).f4)) := (blk_cell BK130.out 4).trans rfl
                            have hcz29_5 : wc.cell? ⟨gb130, 5, none⟩ = some (.int .i64 ((rd_T30 t124 x12_1).f5)) := (blk_cell BK130.out 5).trans rfl
                            have hfz29_0 := blk_frozen BK130.out 0
                            have hfz29_1 := blk_frozen BK130.out 1
                            have hfz29_2 := blk_frozen BK130.out 2
                            have hfz29_3 := blk_frozen BK130.out 3
                            have hfz29_4 := blk_frozen BK130.out 4
                            have hfz29_5 := blk_frozen BK130.out 5
                            go_wp2
                            go_roundg kj18
                            case measure => have := HK1.out; have := HJ9.out; have := HJ18.out; omega
                            case rel => exact ⟨(ji28), (wrap64 ((wrap64 (x11_1 + ((rd_T30 t124 x12_1).f4))) - ((rd_T30 t124 x12_1).f4))), (wrap64 (x12_1 - 1)), (by first | rfl | (simp; done) | (simp only [← hji28] <;> (first | rfl | simp)) | (simp [*]; done)), (by first | rfl | (simp; done) | (simp [*]; done)), (by first | rfl | (simp; done) | (simp [*]; done)), H', ⟨by have := HK1.out; have := HJ9.out; have := HJ18.out; omega⟩, ⟨by (with_reducible repeat (first | apply Kd.R_alloc | apply Kd.R_drewN | apply Kd.R_drew)); exact Kd.R_mono HO_7.out (fun _ hk => trivial)⟩, ⟨by repeat (first | (with_reducible first | exact HB.out | apply below_alloc | apply pw_below_drewN | apply below_drew1 | refine below_set ?_ GE130.out) | exact HB.out)⟩⟩
                          · rw [if_neg c27] at H
                            have c27b0 : (((rd_T30 t124 x12_1).f3) == 0) = false := beq_eq_false_iff_ne.mpr c27
                            have c27b1 : (((rd_T30 t124 x12_1).f3) != 0) = true := bne_iff_ne.mpr c27
                            obtain ⟨ji30, hji30⟩ : ∃ j_ : Int, (mx x10_1 (wrap64 (x11_1 + ((rd_T30 t124 x12_1).f4)))) = j_ := ⟨_, rfl⟩
                            replace H : (insolvencylaw26_PreferenceSuffix.l0 kj18 t124 (wrap64 (Int.tmod a1 30)) (wrap64 (Int.tmod a2 60)) ji30 (wrap64 (x11_1 + ((rd_T30 t124 x12_1).f4))) (wrap64 (x12_1 - 1))) = some r := by first | (rw [hji30] at H; exact H) | (simp only [hji30] at H ⊢; exact H)
                            have hji30_ : (if x10_1 < (wrap64 (x11_1 + ((rd_T30 t124 x12_1).f4))) then (wrap64 (x11_1 + ((rd_T30 t124 x12_1).f4))) else x10_1) = ji30 := hji30
                            have H' := Aside0.mk H
                            clear H
                            have hcz31_0 : wc.cell? ⟨gb130, 0, none⟩ = some (.int .i64 ((rd_T30 t124 x12_1).f0)) := (blk_cell BK130.out 0).trans rfl
                            have hcz31_1 : wc.cell? ⟨gb130, 1, none⟩ = some (.int .i64 ((rd_T30 t124 x12_1).f1)) := (blk_cell BK130.out 1).trans rfl
                            have hcz31_2 : wc.cell? ⟨gb130, 2, none⟩ = some (.int .i64 ((rd_T30 t124 x12_1).f2)) := (blk_cell BK130.out 2).trans rfl
                            have hcz31_3 : wc.cell? ⟨gb130, 3, none⟩ = some (.int .i64 ((rd_T30 t124 x12_1).f3)) := (blk_cell BK130.out 3).trans rfl
                            have hcz31_4 : wc.cell? ⟨gb130, 4, none⟩ = some (.int .i64 ((rd_T30 t124 x12_1).f4)) := (blk_cell BK130.out 4).trans rfl
                            have hcz31_5 : wc.cell? ⟨gb130, 5, none⟩ = some (.int .i64 ((rd_T30 t124 x12_1).f5)) := (blk_cell BK130.out 5).trans rfl
                            have hfz31_0 := blk_frozen BK130.out 0
                            have hfz31_1 := blk_frozen BK130.out 1
                            have hfz31_2 := blk_frozen BK130.out 2
                            have hfz31_3 := blk_frozen BK130.out 3
                            have hfz31_4 := blk_frozen BK130.out 4
                            have hfz31_5 := blk_frozen BK130.out 5
                            go_wp2
                            go_roundg kj18
                            case measure => have := HK1.out; have := HJ9.out; have := HJ18.out; omega
                            case rel => exact ⟨(ji30), (wrap64 (x11_1 + ((rd_T30 t124 x12_1).f4))), (wrap64 (x12_1 - 1)), (by first | rfl | (simp; done) | (simp only [← hji30] <;> (first | rfl | simp)) | (simp [*]; done)), (by first | rfl | (simp; done) | (simp [*]; done)), (by first | rfl | (simp; done) | (simp [*]; done)), H', ⟨by have := HK1.out; have := HJ9.out; have := HJ18.out; omega⟩, ⟨by (with_reducible repeat (first | apply Kd.R_alloc | apply Kd.R_drewN | apply Kd.R_drew)); exact Kd.R_mono HO_7.out (fun _ hk => trivial)⟩, ⟨by repeat (first | (with_reducible first | exact HB.out | apply below_alloc | apply pw_below_drewN | apply below_drew1 | refine below_set ?_ GE130.out) | exact HB.out)⟩⟩
                        · rw [if_neg c26] at H
                          have c26b0 : (((rd_T30 t124 x12_1).f2) == 1) = false := beq_eq_false_iff_ne.mpr c26
                          have c26b1 : (((rd_T30 t124 x12_1).f2) != 1) = true := bne_iff_ne.mpr c26
                          obtain ⟨ji32, hji32⟩ : ∃ j_ : Int, (mx x10_1 (wrap64 (x11_1 + ((rd_T30 t124 x12_1).f4)))) = j_ := ⟨_, rfl⟩
                          replace H : (insolvencylaw26_PreferenceSuffix.l0 kj18 t124 (wrap64 (Int.tmod a1 30)) (wrap64 (Int.tmod a2 60)) ji32 (wrap64 (x11_1 + ((rd_T30 t124 x12_1).f4))) (wrap64 (x12_1 - 1))) = some r := by first | (rw [hji32] at H; exact H) | (simp only [hji32] at H ⊢; exact H)
                          have hji32_ : (if x10_1 < (wrap64 (x11_1 + ((rd_T30 t124 x12_1).f4))) then (wrap64 (x11_1 + ((rd_T30 t124 x12_1).f4))) else x10_1) = ji32 := hji32
                          have H' := Aside0.mk H
                          clear H
                          have hcz33_0 : wc.cell? ⟨gb130, 0, none⟩ = some (.int .i64 ((rd_T30 t124 x12_1).f0)) := (blk_cell BK130.out 0).trans rfl
                          have hcz33_1 : wc.cell? ⟨gb130, 1, none⟩ = some (.int .i64 ((rd_T30 t124 x12_1).f1)) := (blk_cell BK130.out 1).trans rfl
                          have hcz33_2 : wc.cell? ⟨gb130, 2, none⟩ = some (.int .i64 ((rd_T30 t124 x12_1).f2)) := (blk_cell BK130.out 2).trans rfl
                          have hcz33_3 : wc.cell? ⟨gb130, 3, none⟩ = some (.int .i64 ((rd_T30 t124 x12_1).f3)) := (blk_cell BK130.out 3).trans rfl
                          have hcz33_4 : wc.cell? ⟨gb130, 4, none⟩ = some (.int .i64 ((rd_T30 t124 x12_1).f4)) := (blk_cell BK130.out 4).trans rfl
                          have hcz33_5 : wc.cell? ⟨gb130, 5, none⟩ = some (.int .i64 ((rd_T30 t124 x12_1).f5)) := (blk_cell BK130.out 5).trans rfl
                          have hfz33_0 := blk_frozen BK130.out 0
                          have hfz33_1 := blk_frozen BK130.out 1
                          have hfz33_2 := blk_frozen BK130.out 2
                          have hfz33_3 := blk_frozen BK130.out 3
                          have hfz33_4 := blk_frozen BK130.out 4
                          have hfz33_5 := blk_frozen BK130.out 5
                          go_wp2
                          go_roundg kj18
                          case measure => have := HK1.out; have := HJ9.out; have := HJ18.out; omega
                          case rel => exact ⟨(ji32), (wrap64 (x11_1 + ((rd_T30 t124 x12_1).f4))), (wrap64 (x12_1 - 1)), (by first | rfl | (simp; done) | (simp only [← hji32] <;> (first | rfl | simp)) | (simp [*]; done)), (by first | rfl | (simp; done) | (simp [*]; done)), (by first | rfl | (simp; done) | (simp [*]; done)), H', ⟨by have := HK1.out; have := HJ9.out; have := HJ18.out; omega⟩, ⟨by (with_reducible repeat (first | apply Kd.R_alloc | apply Kd.R_drewN | apply Kd.R_drew)); exact Kd.R_mono HO_7.out (fun _ hk => trivial)⟩, ⟨by repeat (first | (with_reducible first | exact HB.out | apply below_alloc | apply pw_below_drewN | apply below_drew1 | refine below_set ?_ GE130.out) | exact HB.out)⟩⟩
                      · replace c25 := Bool.eq_false_iff.mpr c25
                        subst c25
                        have H1 : (if ((rd_T30 t124 x12_1).f2) = 1 then (if ((rd_T30 t124 x12_1).f3) = 0 then (insolvencylaw26_PreferenceSuffix.l0 kj18 t124 (wrap64 (Int.tmod a1 30)) (wrap64 (Int.tmod a2 60)) (mx x10_1 (wrap64 (x11_1 - ((rd_T30 t124 x12_1).f4)))) (wrap64 (x11_1 - ((rd_T30 t124 x12_1).f4))) (wrap64 (x12_1 - 1))) else (insolvencylaw26_PreferenceSuffix.l0 kj18 t124 (wrap64 (Int.tmod a1 30)) (wrap64 (Int.tmod a2 60)) (mx x10_1 x11_1) x11_1 (wrap64 (x12_1 - 1)))) else (insolvencylaw26_PreferenceSuffix.l0 kj18 t124 (wrap64 (Int.tmod a1 30)) (wrap64 (Int.tmod a2 60)) (mx x10_1 x11_1) x11_1 (wrap64 (x12_1 - 1)))) = some r := by rw [if_neg (show ¬ (false = true) by decide)] at H; exact H
                        clear H
                        have H := H1
                        clear H1
                        by_cases c34 : ((rd_T30 t124 x12_1).f2) = 1
                        · rw [if_pos c34] at H
                          have c34b0 : (((rd_T30 t124 x12_1).f2) == 1) = true := beq_iff_eq.mpr c34
                          have c34b1 : (((rd_T30 t124 x12_1).f2) != 1) = false := bne_eq_false_iff_eq.mpr c34
                          clear c34
                          by_cases c35 : ((rd_T30 t124 x12_1).f3) = 0
                          · rw [if_pos c35] at H
                            have c35b0 : (((rd_T30 t124 x12_1).f3) == 0) = true := beq_iff_eq.mpr c35
                            have c35b1 : (((rd_T30 t124 x12_1).f3) != 0) = false := bne_eq_false_iff_eq.mpr c35
                            clear c35
                            obtain ⟨ji36, hji36⟩ : ∃ j_ : Int, (mx x10_1 (wrap64 (x11_1 - ((rd_T30 t124 x12_1).f4)))) = j_ := ⟨_, rfl⟩
                            replace H : (insolvencylaw26_PreferenceSuffix.l0 kj18 t124 (wrap64 (Int.tmod a1 30)) (wrap64 (Int.tmod a2 60)) ji36 (wrap64 (x11_1 - ((rd_T30 t124 x12_1).f4))) (wrap64 (x12_1 - 1))) = some r := by first | (rw [hji36] at H; exact H) | (simp only [hji36] at H ⊢; exact H)
                            have hji36_ : (if x10_1 < (wrap64 (x11_1 - ((rd_T30 t124 x12_1).f4))) then (wrap64 (x11_1 - ((rd_T30 t124 x12_1).f4))) else x10_1) = ji36 := hji36
                            have H' := Aside0.mk H
                            clear H
                            have hcz37_0 : wc.cell? ⟨gb130, 0, none⟩ = some (.int .i64 ((rd_T30 t124 x12_1).f0)) := (blk_cell BK130.out 0).trans rfl
                            have hcz37_1 : wc.cell? ⟨gb130, 1, none⟩ = some (.int .i64 ((rd_T30 t124 x12_1).f1)) := (blk_cell BK130.out 1).trans rfl
                            have hcz37_2 : wc.cell? ⟨gb130, 2, none⟩ = some (.int .i64 ((rd_T30 t124 x12_1).f2)) := (blk_cell BK130.out 2).trans rfl
                            have hcz37_3 : wc.cell? ⟨gb130, 3, none⟩ = some (.int .i64 ((rd_T30 t124 x12_1).f3)) := (blk_cell BK130.out 3).trans rfl
                            have hcz37_4 : wc.cell? ⟨gb130, 4, none⟩ = some (.int .i64 ((rd_T30 t124 x12_1).f4)) := (blk_cell BK130.out 4).trans rfl
                            have hcz37_5 : wc.cell? ⟨gb130, 5, none⟩ = some (.int .i64 ((rd_T30 t124 x12_1).f5)) := (blk_cell BK130.out 5).trans rfl
                            have hfz37_0 := blk_frozen BK130.out 0
                            have hfz37_1 := blk_frozen BK130.out 1
                            have hfz37_2 := blk_frozen BK130.out 2
                            have hfz37_3 := blk_frozen BK130.out 3
                            have hfz37_4 := blk_frozen BK130.out 4
                            have hfz37_5 := blk_frozen BK130.out 5
                            go_wp2
                            go_roundg kj18
                            case measure => have := HK1.out; have := HJ9.out; have := HJ18.out; omega
                            case rel => exact ⟨(ji36), (wrap64 (x11_1 - ((rd_T30 t124 x12_1).f4))), (wrap64 (x12_1 - 1)), (by first | rfl | (simp; done) | (simp only [← hji36] <;> (first | rfl | simp)) | (simp [*]; done)), (by first | rfl | (simp; done) | (simp [*]; done)), (by first | rfl | (simp; done) | (simp [*]; done)), H', ⟨by have := HK1.out; have := HJ9.out; have := HJ18.out; omega⟩, ⟨by (with_reducible repeat (first | apply Kd.R_alloc | apply Kd.R_drewN | apply Kd.R_drew)); exact Kd.R_mono HO_7.out (fun _ hk => trivial)⟩, ⟨by repeat (first | (with_reducible first | exact HB.out | apply below_alloc | apply pw_below_drewN | apply below_drew1 | refine below_set ?_ GE130.out) | exact HB.out)⟩⟩
                          · rw [if_neg c35] at H
                            have c35b0 : (((rd_T30 t124 x12_1).f3) == 0) = false := beq_eq_false_iff_ne.mpr c35
                            have c35b1 : (((rd_T30 t124 x12_1).f3) != 0) = true := bne_iff_ne.mpr c35
                            obtain ⟨ji38, hji38⟩ : ∃ j_ : Int, (mx x10_1 x11_1) = j_ := ⟨_, rfl⟩
                            replace H : (insolvencylaw26_PreferenceSuffix.l0 kj18 t124 (wrap64 (Int.tmod a1 30)) (wrap64 (Int.tmod a2 60)) ji38 x11_1 (wrap64 (x12_1 - 1))) = some r := by first | (rw [hji38] at H; exact H) | (simp only [hji38] at H ⊢; exact H)
                            have hji38_ : (if x10_1 < x11_1 then x11_1 else x10_1) = ji38 := hji38
                            have H' := Aside0.mk H
                            clear H
                            have hcz39_0 : wc.cell? ⟨gb130, 0, none⟩ = some (.int .i64 ((rd_T30 t124 x12_1).f0)) := (blk_cell BK130.out 0).trans rfl
                            have hcz39_1 : wc.cell? ⟨gb130, 1, none⟩ = some (.int .i64 ((rd_T30 t124 x12_1).f1)) := (blk_cell BK130.out 1).trans rfl
                            have hcz39_2 : wc.cell? ⟨gb130, 2, none⟩ = some (.int .i64 ((rd_T30 t124 x12_1).f2)) := (blk_cell BK130.out 2).trans rfl
                            have hcz39_3 : wc.cell? ⟨gb130, 3, none⟩ = some (.int .i64 ((rd_T30 t124 x12_1).f3)) := (blk_cell BK130.out 3).trans rfl
                            have hcz39_4 : wc.cell? ⟨gb130, 4, none⟩ = some (.int .i64 ((rd_T30 t124 x12_1).f4)) := (blk_cell BK130.out 4).trans rfl
                            have hcz39_5 : wc.cell? ⟨gb130, 5, none⟩ = some (.int .i64 ((rd_T30 t124 x12_1).f5)) := (blk_cell BK130.out 5).trans rfl
                            have hfz39_0 := blk_frozen BK130.out 0
                            have hfz39_1 := blk_frozen BK130.out 1
                            have hfz39_2 := blk_frozen BK130.out 2
                            have hfz39_3 := blk_frozen BK130.out 3
                            have hfz39_4 := blk_frozen BK130.out 4
                            have hfz39_5 := blk_frozen BK130.out 5
                            go_wp2
                            go_roundg kj18
                            case measure => have := HK1.out; have := HJ9.out; have := HJ18.out; omega
                            case rel => exact ⟨(ji38), (x11_1), (wrap64 (x12_1 - 1)), (by first | rfl | (simp; done) | (simp only [← hji38] <;> (first | rfl | simp)) | (simp [*]; done)), (by first | rfl | (simp; done) | (simp [*]; done)), (by first | rfl | (simp; done) | (simp [*]; done)), H', ⟨by have := HK1.out; have := HJ9.out; have := HJ18.out; omega⟩, ⟨by (with_reducible repeat (first | apply Kd.R_alloc | apply Kd.R_drewN | apply Kd.R_drew)); exact Kd.R_mono HO_7.out (fun _ hk => trivial)⟩, ⟨by repeat (first | (with_reducible first | exact HB.out | apply below_alloc | apply pw_below_drewN | apply below_drew1 | refine below_set ?_ GE130.out) | exact HB.out)⟩⟩
                        · rw [if_neg c34] at H
                          have c34b0 : (((rd_T30 t124 x12_1).f2) == 1) = false := beq_eq_false_iff_ne.mpr c34
                          have c34b1 : (((rd_T30 t124 x12_1).f2) != 1) = true := bne_iff_ne.mpr c34
                          obtain ⟨ji40, hji40⟩ : ∃ j_ : Int, (mx x10_1 x11_1) = j_ := ⟨_, rfl⟩
                          replace H : (insolvencylaw26_PreferenceSuffix.l0 kj18 t124 (wrap64 (Int.tmod a1 30)) (wrap64 (Int.tmod a2 60)) ji40 x11_1 (wrap64 (x12_1 - 1))) = some r := by first | (rw [hji40] at H; exact H) | (simp only [hji40] at H ⊢; exact H)
                          have hji40_ : (if x10_1 < x11_1 then x11_1 else x10_1) = ji40 := hji40
                          have H' := Aside0.mk H
                          clear H
                          have hcz41_0 : wc.cell? ⟨gb130, 0, none⟩ = some (.int .i64 ((rd_T30 t124 x12_1).f0)) := (blk_cell BK130.out 0).trans rfl
                          have hcz41_1 : wc.cell? ⟨gb130, 1, none⟩ = some (.int .i64 ((rd_T30 t124 x12_1).f1)) := (blk_cell BK130.out 1).trans rfl
                          have hcz41_2 : wc.cell? ⟨gb130, 2, none⟩ = some (.int .i64 ((rd_T30 t124 x12_1).f2)) := (blk_cell BK130.out 2).trans rfl
                          have hcz41_3 : wc.cell? ⟨gb130, 3, none⟩ = some (.int .i64 ((rd_T30 t124 x12_1).f3)) := (blk_cell BK130.out 3).trans rfl
                          have hcz41_4 : wc.cell? ⟨gb130, 4, none⟩ = some (.int .i64 ((rd_T30 t124 x12_1).f4)) := (blk_cell BK130.out 4).trans rfl
                          have hcz41_5 : wc.cell? ⟨gb130, 5, none⟩ = some (.int .i64 ((rd_T30 t124 x12_1).f5)) := (blk_cell BK130.out 5).trans rfl
                          have hfz41_0 := blk_frozen BK130.out 0
                          have hfz41_1 := blk_frozen BK130.out 1
                          have hfz41_2 := blk_frozen BK130.out 2
                          have hfz41_3 := blk_frozen BK130.out 3
                          have hfz41_4 := blk_frozen BK130.out 4
                          have hfz41_5 := blk_frozen BK130.out 5
                          go_wp2
                          go_roundg kj18
                          case measure => have := HK1.out; have := HJ9.out; have := HJ18.out; omega
                          case rel => exact ⟨(ji40), (x11_1), (wrap64 (x12_1 - 1)), (by first | rfl | (simp; done) | (simp only [← hji40] <;> (first | rfl | simp)) | (simp [*]; done)), (by first | rfl | (simp; done) | (simp [*]; done)), (by first | rfl | (simp; done) | (simp [*]; done)), H', ⟨by have := HK1.out; have := HJ9.out; have := HJ18.out; omega⟩, ⟨by (with_reducible repeat (first | apply Kd.R_alloc | apply Kd.R_drewN | apply Kd.R_drew)); exact Kd.R_mono HO_7.out (fun _ hk => trivial)⟩, ⟨by repeat (first | (with_reducible first | exact HB.out | apply below_alloc | apply pw_below_drewN | apply below_drew1 | refine below_set ?_ GE130.out) | exact HB.out)⟩⟩
          · rw [if_neg c9] at H
            exact absurd H (by simp)
        · rw [if_neg c8] at H
          exact absurd H (by simp)
      · rw [if_neg c7] at H
        have c7b0 : decide (0 ≤ x12_1) = false := decide_eq_false c7
        clear c7
        replace H := Option.bind_eq_some_iff.mp H
        obtain ⟨t127, A420, H⟩ := H
        replace H : (if t127 = true then ((preference_Exposure.f k1 t124 0 1 (wrap64 (Int.tmod a1 30)) (wrap64 (Int.tmod a2 60))).bind fun t128 => (some (t128 == x10_1))) else (some false)) = some r := H
        have A42 := Aside0.mk A420
        clear A420
        by_cases c43 : t127 = true
        · subst c43
          have H1 : ((preference_Exposure.f k1 t124 0 1 (wrap64 (Int.tmod a1 30)) (wrap64 (Int.tmod a2 60))).bind fun t128 => (some (t128 == x10_1))) = some r := by rw [if_pos rfl] at H; exact H
          clear H
          have H := H1
          clear H1
          replace H := Option.bind_eq_some_iff.mp H
          obtain ⟨t128, A440, H⟩ := H
          replace H : (some (t128 == x10_1)) = some r := H
          have A44 := Aside0.mk A440
          clear A440
          obtain rfl := Option.some.inj H
          go_wp2_with (first | ((with_reducible refine gate_callee (f := 9) rfl ?_); refine goesL_ (some 80) rfl rfl Try.func9 (by kernel_rfl) rfl #[] rfl (by (try simp only [List.map_toArray, List.map_cons, List.map_nil]); first | done | rfl | (simp only [List.length_drop, List.length_take]; rfl)) ?_; (with_reducible refine (insolvencylaw26_awake.calls k1  true _ A42.out).mono ?_); rintro e w45 ⟨rfl, hb⟩; refine ⟨_, rfl, ?_⟩; have n0_ := Aside0.mk (Kd.R_below (by (with_reducible repeat (first | apply Kd.R_alloc | apply Kd.R_drewN | apply Kd.R_drew)); exact HO_7.out) hb); have n1_ := Aside0.mk (below_step (by repeat (first | (with_reducible first | exact HB.out | apply below_alloc | apply pw_below_drewN | apply below_drew1) | exact HB.out)) hb); clear HO_7; clear HB; have HO_7 := n0_; have HB := n1_; clear n0_ n1_; (try clear hb); (try clear hb2); (try clear hk); (try clear hi)) | (go_at_call 11; (with_reducible refine (preference_Exposure.calls k1 _ _ t124 0 1 (wrap64 (Int.tmod a1 30)) (wrap64 (Int.tmod a2 60)) t128 _ ?side1 ?side2 A44.out).mono ?_); (case side1 => repeat (first | exact (Kd.R_reads' HO_7.out).2.2 | (with_reducible refine Kd.C_alloc ?_ _) | (with_reducible refine Kd.C_drewN ?_ _) | (with_reducible refine Kd.C_drew ?_))); (case side2 => exact (Kd.R_reads' HO_7.out).2.1); rintro e w46 ⟨rfl, hb⟩; have n0_ := Aside0.mk (Kd.R_below (by (with_reducible repeat (first | apply Kd.R_alloc | apply Kd.R_drewN | apply Kd.R_drew)); exact HO_7.out) hb); have n1_ := Aside0.mk (below_step (by repeat (first | (with_reducible first | exact HB.out | apply below_alloc | apply pw_below_drewN | apply below_drew1) | exact HB.out)) hb); clear HO_7; clear HB; have HO_7 := n0_; have HB := n1_; clear n0_ n1_; (try clear hb); (try clear hb2); (try clear hk); (try clear hi)))
          go_ret
          exact ⟨by first | rfl | (simp [errW_none, errW_some] <;> rfl) | (simp [*, errW_none, errW_some] <;> rfl), by repeat (first | (with_reducible first | exact HB.out | apply below_alloc | apply pw_below_drewN | apply below_drew1) | exact HB.out)⟩
        · replace c43 := Bool.eq_false_iff.mpr c43
          subst c43
          have H1 : (some false) = some r := by rw [if_neg (show ¬ (false = true) by decide)] at H; exact H
          clear H
          have H := H1
          clear H1
          obtain rfl := Option.some.inj H
          go_wp2_with (first | ((with_reducible refine gate_callee (f := 9) rfl ?_); refine goesL_ (some 80) rfl rfl Try.func9 (by kernel_rfl) rfl #[] rfl (by (try simp only [List.map_toArray, List.map_cons, List.map_nil]); first | done | rfl | (simp only [List.length_drop, List.length_take]; rfl)) ?_; (with_reducible refine (insolvencylaw26_awake.calls k1  false _ A42.out).mono ?_); rintro e w47 ⟨rfl, hb⟩; refine ⟨_, rfl, ?_⟩; have n0_ := Aside0.mk (Kd.R_below (by (with_reducible repeat (first | apply Kd.R_alloc | apply Kd.R_drewN | apply Kd.R_drew)); exact HO_7.out) hb); have n1_ := Aside0.mk (below_step (by repeat (first | (with_reducible first | exact HB.out | apply below_alloc | apply pw_below_drewN | apply below_drew1) | exact HB.out)) hb); clear HO_7; clear HB; have HO_7 := n0_; have HB := n1_; clear n0_ n1_; (try clear hb); (try clear hb2); (try clear hk); (try clear hi)))
          go_ret
          exact ⟨by first | rfl | (simp [errW_none, errW_some] <;> rfl) | (simp [*, errW_none, errW_some] <;> rfl), by repeat (first | (with_reducible first | exact HB.out | apply below_alloc | apply pw_below_drewN | apply below_drew1) | exact HB.out)⟩

end Go.Proofs.Ythljfcojmheopaa.PAll
