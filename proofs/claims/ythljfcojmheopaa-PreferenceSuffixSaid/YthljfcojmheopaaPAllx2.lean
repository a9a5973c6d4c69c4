-- PRINTED by a session's own changed print
import Derived.Test.YthljfcojmheopaaPAllx0
namespace Go.Proofs.Ythljfcojmheopaa.PAll
open Go.RowKit Go.Proofs.YthljfcojmheopaaW.PrintWords Go.Proofs.YthljfcojmheopaaW.PrintLast Go.Proofs.YthljfcojmheopaaW.PrintMore
attribute [local go_sem] max2_int min2_int max_two min_two max_three min_three max_four min_four   -- for this text's walks alone
set_option linter.unusedVariables false
set_option linter.unusedSimpArgs false

/-! ### insolvencylaw0_Rows: function 10 -/
mutual
def insolvencylaw0_Rows.j4 : Nat → List (S30) → Option ((List (S30)))
  | 0, _ => none
  | k + 1, x7 => some x7
def insolvencylaw0_Rows.l0 : Nat → Int → Int → List (S30) → Int → List (S47) → Int → Int → Option ((List (S30)))
  | 0, _, _, _, _, _, _, _ => none
  | k + 1, x1, x2, x7, x8, x14, x15, x16 => if x16 < x15 then (if 0 ≤ x16 then (if x16 < (x14.length : Int) then (if (x7.length : Int) ≥ x2 then (insolvencylaw0_Rows.j1 k x1 x2 x7 x8 x14 x15 x16 true ((rd_T47 x14 x16).f0) ((rd_T47 x14 x16).f1) ((rd_T47 x14 x16).f2) ((rd_T47 x14 x16).f3) ((rd_T47 x14 x16).f4)) else (insolvencylaw0_Rows.j1 k x1 x2 x7 x8 x14 x15 x16 (decide (x1 < 2)) ((rd_T47 x14 x16).f0) ((rd_T47 x14 x16).f1) ((rd_T47 x14 x16).f2) ((rd_T47 x14 x16).f3) ((rd_T47 x14 x16).f4))) else (none)) else (none)) else (insolvencylaw0_Rows.j4 k x7)
def insolvencylaw0_Rows.j1 : Nat → Int → Int → List (S30) → Int → List (S47) → Int → Int → Bool → Int → Int → Int → Int → Int → Option ((List (S30)))
  | 0, _, _, _, _, _, _, _, _, _, _, _, _, _ => none
  | k + 1, x1, x2, x7, x8, x14, x15, x16, x27, x109000, x109001, x109002, x109003, x109004 => if x27 = true then (insolvencylaw0_Rows.j4 k x7) else (if x1 = 0 then (none) else (if (wrap64 (x1 - 1)) = 0 then (none) else (if (Int.tmod (wrap64 (x109003)) (wrap64 (x1 - 1))) ≥ (Int.tmod (wrap64 (x109002)) x1) then (insolvencylaw0_Rows.j2 k x1 x2 x7 (wrap64 (x8 + (wrap64 (Int.tmod x109000 6)))) (Int.tmod (wrap64 (x109002)) x1) (wrap64 ((Int.tmod (wrap64 (x109003)) (wrap64 (x1 - 1))) + 1)) x14 x15 x16 x109000 x109001 x109002 x109003 x109004) else (insolvencylaw0_Rows.j2 k x1 x2 x7 (wrap64 (x8 + (wrap64 (Int.tmod x109000 6)))) (Int.tmod (wrap64 (x109002)) x1) (Int.tmod (wrap64 (x109003)) (wrap64 (x1 - 1))) x14 x15 x16 x109000 x109001 x109002 x109003 x109004))))
def insolvencylaw0_Rows.j2 : Nat → Int → Int → List (S30) → Int → Int → Int → List (S47) → Int → Int → Int → Int → Int → Int → Int → Option ((List (S30)))
  | 0, _, _, _, _, _, _, _, _, _, _, _, _, _, _ => none
  | k + 1, x1, x2, x7, x8, x11, x12, x14, x15, x16, x109000, x109001, x109002, x109003, x109004 => if (wrap64 (1 + (wrap64 (Int.tmod x109001 3)))) = 3 then (insolvencylaw0_Rows.j3 k x1 x2 x7 x8 x14 x15 x16 x8 (wrap64 (1 + (wrap64 (Int.tmod x109001 3)))) x11 x12 (wrap64 (Int.tmod x109004 40)) (wrap64 (Int.tmod (IntKind.u16.wrap (Int.tdiv x109004 40)) 60))) else (insolvencylaw0_Rows.j3 k x1 x2 x7 x8 x14 x15 x16 x8 (wrap64 (1 + (wrap64 (Int.tmod x109001 3)))) x11 x12 (wrap64 (Int.tmod x109004 40)) 0)
def insolvencylaw0_Rows.j3 : Nat → Int → Int → List (S30) → Int → List (S47) → Int → Int → Int → Int → Int → Int → Int → Int → Option ((List (S30)))
  | 0, _, _, _, _, _, _, _, _, _, _, _, _, _ => none
  | k + 1, x1, x2, x7, x8, x14, x15, x16, x110000, x110001, x110002, x110003, x110004, x110005 => if x7.length < 2932031007402 then (insolvencylaw0_Rows.l0 k x1 x2 (x7 ++ [(⟨x110000, x110001, x110002, x110003, x110004, x110005⟩ : S30)]) x8 x14 x15 (wrap64 (x16 + 1))) else (none)
end
def insolvencylaw0_Rows.f (k : Nat) (l0 : List (S47)) (a1 : Int) (a2 : Int) : Option ((List (S30))) := insolvencylaw0_Rows.l0 k a1 a2 ([] : List (S30)) 0 l0 (l0.length : Int) 0
theorem insolvencylaw0_Rows.mono_l : ∀ k, (∀ y0, LeO (insolvencylaw0_Rows.j4 k y0) (insolvencylaw0_Rows.j4 (k + 1) y0)) ∧ (∀ y0 y1 y2 y3 y4 y5 y6, LeO (insolvencylaw0_Rows.l0 k y0 y1 y2 y3 y4 y5 y6) (insolvencylaw0_Rows.l0 (k + 1) y0 y1 y2 y3 y4 y5 y6)) ∧ (∀ y0 y1 y2 y3 y4 y5 y6 y7 y8 y9 y10 y11 y12, LeO (insolvencylaw0_Rows.j1 k y0 y1 y2 y3 y4 y5 y6 y7 y8 y9 y10 y11 y12) (insolvencylaw0_Rows.j1 (k + 1) y0 y1 y2 y3 y4 y5 y6 y7 y8 y9 y10 y11 y12)) ∧ (∀ y0 y1 y2 y3 y4 y5 y6 y7 y8 y9 y10 y11 y12 y13, LeO (insolvencylaw0_Rows.j2 k y0 y1 y2 y3 y4 y5 y6 y7 y8 y9 y10 y11 y12 y13) (insolvencylaw0_Rows.j2 (k + 1) y0 y1 y2 y3 y4 y5 y6 y7 y8 y9 y10 y11 y12 y13)) ∧ (∀ y0 y1 y2 y3 y4 y5 y6 y7 y8 y9 y10 y11 y12, LeO (insolvencylaw0_Rows.j3 k y0 y1 y2 y3 y4 y5 y6 y7 y8 y9 y10 y11 y12) (insolvencylaw0_Rows.j3 (k + 1) y0 y1 y2 y3 y4 y5 y6 y7 y8 y9 y10 y11 y12))
  | 0 => ⟨fun _ r h => by simp [insolvencylaw0_Rows.j4] at h, fun _ _ _ _ _ _ _ r h => by simp [insolvencylaw0_Rows.l0] at h, fun _ _ _ _ _ _ _ _ _ _ _ _ _ r h => by simp [insolvencylaw0_Rows.j1] at h, fun _ _ _ _ _ _ _ _ _ _ _ _ _ _ r h => by simp [insolvencylaw0_Rows.j2] at h, fun _ _ _ _ _ _ _ _ _ _ _ _ _ r h => by simp [insolvencylaw0_Rows.j3] at h⟩
  | k + 1 => by
    obtain ⟨ih0, ih1, ih2, ih3, ih4⟩ := insolvencylaw0_Rows.mono_l k
    refine ⟨?_, ?_, ?_, ?_, ?_⟩
    · intro y0
      unfold insolvencylaw0_Rows.j4
      repeat' first
      | (with_reducible exact ih0 _)
      | (with_reducible exact ih1 _ _ _ _ _ _ _)
      | (with_reducible exact ih2 _ _ _ _ _ _ _ _ _ _ _ _ _)
      | (with_reducible exact ih3 _ _ _ _ _ _ _ _ _ _ _ _ _ _)
      | (with_reducible exact ih4 _ _ _ _ _ _ _ _ _ _ _ _ _)
      | (with_reducible exact LeO.refl _)
      | (with_reducible exact LeO.none _)
      | (with_reducible refine LeO.ite ?_ ?_)
      | (with_reducible refine LeO.bind ?_ (fun _ => ?_))
      | exact ih0 _
      | exact ih1 _ _ _ _ _ _ _
      | exact ih2 _ _ _ _ _ _ _ _ _ _ _ _ _
      | exact ih3 _ _ _ _ _ _ _ _ _ _ _ _ _ _
      | exact ih4 _ _ _ _ _ _ _ _ _ _ _ _ _
      | exact LeO.none _
      | refine LeO.ite ?_ ?_
      | refine LeO.bind ?_ (fun _ => ?_)
    · intro y0 y1 y2 y3 y4 y5 y6
      unfold insolvencylaw0_Rows.l0
      repeat' first
      | (with_reducible exact ih0 _)
      | (with_reducible exact ih1 _ _ _ _ _ _ _)
      | (with_reducible exact ih2 _ _ _ _ _ _ _ _ _ _ _ _ _)
      | (with_reducible exact ih3 _ _ _ _ _ _ _ _ _ _ _ _ _ _)
      | (with_reducible exact ih4 _ _ _ _ _ _ _ _ _ _ _ _ _)
      | (with_reducible exact LeO.refl _)
      | (with_reducible exact LeO.none _)
      | (with_reducible refine LeO.ite ?_ ?_)
      | (with_reducible refine LeO.bind ?_ (fun _ => ?_))
      | exact ih0 _
      | exact ih1 _ _ _ _ _ _ _
      | exact ih2 _ _ _ _ _ _ _ _ _ _ _ _ _
      | exact ih3 _ _ _ _ _ _ _ _ _ _ _ _ _ _
      | exact ih4 _ _ _ _ _ _ _ _ _ _ _ _ _
      | exact LeO.none _
      | refine LeO.ite ?_ ?_
      | refine LeO.bind ?_ (fun _ => ?_)
    · intro y0 y1 y2 y3 y4 y5 y6 y7 y8 y9 y10 y11 y12
      unfold insolvencylaw0_Rows.j1
      repeat' first
      | (with_reducible exact ih0 _)
      | (with_reducible exact ih1 _ _ _ _ _ _ _)
      | (with_reducible exact ih2 _ _ _ _ _ _ _ _ _ _ _ _ _)
      | (with_reducible exact ih3 _ _ _ _ _ _ _ _ _ _ _ _ _ _)
      | (with_reducible exact ih4 _ _ _ _ _ _ _ _ _ _ _ _ _)
      | (with_reducible exact LeO.refl _)
      | (with_reducible exact LeO.none _)
      | (with_reducible refine LeO.ite ?_ ?_)
      | (with_reducible refine LeO.bind ?_ (fun _ => ?_))
      | exact ih0 _
      | exact ih1 _ _ _ _ _ _ _
      | exact ih2 _ _ _ _ _ _ _ _ _ _ _ _ _
      | exact ih3 _ _ _ _ _ _ _ _ _ _ _ _ _ _
      | exact ih4 _ _ _ _ _ _ _ _ _ _ _ _ _
      | exact LeO.none _
      | refine LeO.ite ?_ ?_
      | refine LeO.bind ?_ (fun _ => ?_)
    · intro y0 y1 y2 y3 y4 y5 y6 y7 y8 y9 y10 y11 y12 y13
      unfold insolvencylaw0_Rows.j2
      repeat' first
      | (with_reducible exact ih0 _)
      | (with_reducible exact ih1 _ _ _ _ _ _ _)
      | (with_reducible exact ih2 _ _ _ _ _ _ _ _ _ _ _ _ _)
      | (with_reducible exact ih3 _ _ _ _ _ _ _ _ _ _ _ _ _ _)
      | (with_reducible exact ih4 _ _ _ _ _ _ _ _ _ _ _ _ _)
      | (with_reducible exact LeO.refl _)
      | (with_reducible exact LeO.none _)
      | (with_reducible refine LeO.ite ?_ ?_)
      | (with_reducible refine LeO.bind ?_ (fun _ => ?_))
      | exact ih0 _
      | exact ih1 _ _ _ _ _ _ _
      | exact ih2 _ _ _ _ _ _ _ _ _ _ _ _ _
      | exact ih3 _ _ _ _ _ _ _ _ _ _ _ _ _ _
      | exact ih4 _ _ _ _ _ _ _ _ _ _ _ _ _
      | exact LeO.none _
      | refine LeO.ite ?_ ?_
      | refine LeO.bind ?_ (fun _ => ?_)
    · intro y0 y1 y2 y3 y4 y5 y6 y7 y8 y9 y10 y11 y12
      unfold insolvencylaw0_Rows.j3
      repeat' first
      | (with_reducible exact ih0 _)
      | (with_reducible exact ih1 _ _ _ _ _ _ _)
      | (with_reducible exact ih2 _ _ _ _ _ _ _ _ _ _ _ _ _)
      | (with_reducible exact ih3 _ _ _ _ _ _ _ _ _ _ _ _ _ _)
      | (with_reducible exact ih4 _ _ _ _ _ _ _ _ _ _ _ _ _)
      | (with_reducible exact LeO.refl _)
      | (with_reducible exact LeO.none _)
      | (with_reducible refine LeO.ite ?_ ?_)
      | (with_reducible refine LeO.bind ?_ (fun _ => ?_))
      | exact ih0 _
      | exact ih1 _ _ _ _ _ _ _
      | exact ih2 _ _ _ _ _ _ _ _ _ _ _ _ _
      | exact ih3 _ _ _ _ _ _ _ _ _ _ _ _ _ _
      | exact ih4 _ _ _ _ _ _ _ _ _ _ _ _ _
      | exact LeO.none _
      | refine LeO.ite ?_ ?_
      | refine LeO.bind ?_ (fun _ => ?_)
theorem insolvencylaw0_Rows.mono : ∀ a0 a1 a2 k, LeO (insolvencylaw0_Rows.f k a0 a1 a2) (insolvencylaw0_Rows.f (k + 1) a0 a1 a2) := by
  intro a0 a1 a2 k
  obtain ⟨ih0, ih1, ih2, ih3, ih4⟩ := insolvencylaw0_Rows.mono_l k
  unfold insolvencylaw0_Rows.f
  repeat' first
      | (with_reducible exact ih0 _)
      | (with_reducible exact ih1 _ _ _ _ _ _ _)
      | (with_reducible exact ih2 _ _ _ _ _ _ _ _ _ _ _ _ _)
      | (with_reducible exact ih3 _ _ _ _ _ _ _ _ _ _ _ _ _ _)
      | (with_reducible exact ih4 _ _ _ _ _ _ _ _ _ _ _ _ _)
      | (with_reducible exact LeO.refl _)
      | (with_reducible exact LeO.none _)
      | (with_reducible refine LeO.ite ?_ ?_)
      | (with_reducible refine LeO.bind ?_ (fun _ => ?_))
      | exact ih0 _
      | exact ih1 _ _ _ _ _ _ _
      | exact ih2 _ _ _ _ _ _ _ _ _ _ _ _ _
      | exact ih3 _ _ _ _ _ _ _ _ _ _ _ _ _ _
      | exact ih4 _ _ _ _ _ _ _ _ _ _ _ _ _
      | exact LeO.none _
      | refine LeO.ite ?_ ?_
      | refine LeO.bind ?_ (fun _ => ?_)
set_option maxHeartbeats 8000000 in
set_option maxRecDepth 100000 in
theorem insolvencylaw0_Rows.calls (k : Nat) (A0 : Option Addr) (c0 : Nat) (l0 : List (S47)) (a1 : Int) (a2 : Int) (r : List (S30)) (w : World) (hr0 : Kd.C k47 w A0 l0.length l0) (hc0 : l0.length ≤ c0) (h : insolvencylaw0_Rows.f k l0 a1 a2 = some r) :
    Calls Try.prog 10 #[.slice A0 l0.length c0, .int .i64 a1, .int .i64 a2] w fun e w' => ∃ v0_ : Value, e = .returned (v0_) ∧ Kd.R k30 30 w' w.heap.size (fun _ => True) v0_ r ∧ Below w.heap.size w w' := by
  have hu47 := Try.underlying47
  have hu30 := Try.underlying30
  have HR0 := Aside0.mk hr0
  have HC0 := Aside0.mk hc0
  clear hr0 hc0
  have HB := Aside0.mk (Below.refl w.heap.size w)
  have H : (insolvencylaw0_Rows.l0 k a1 a2 ([] : List (S30)) 0 l0 (l0.length : Int) 0) = some r := h
  clear h
  have HC4 := Aside0.mk H
  clear H
  go_enter Try.func10, Try.ntmps10
  go_upto_block 0 with (fail)
  go_cut [7] (fun v7 wc => ∃ (kq : Nat) (x7_3 : List (S30)), Aside0 (insolvencylaw0_Rows.j4 kq x7_3 = some r) ∧ Aside0 (kq ≤ k) ∧ Aside0 (Kd.R k30 30 wc w.heap.size (fun _ => True) v7 x7_3) ∧ Aside0 (Below w.heap.size w wc))
  case first =>
    have H := HC4.out
    clear HC4
    have H' := Aside0.mk H
    clear H
    go_wp2
    go_loopg [7, 8, 16] k (fun kq v7 v8 v16 w' => ∃ (x7_1 : List (S30)) (x8_1 : Int) (x16_1 : Int), v8 = .int .i64 x8_1 ∧ v16 = .int .i64 x16_1 ∧ Aside0 (insolvencylaw0_Rows.l0 kq a1 a2 x7_1 x8_1 l0 (l0.length : Int) x16_1 = some r) ∧ Aside0 (kq ≤ k) ∧ Aside0 (Kd.R k30 30 w' w.heap.size (fun _ => True) v7 x7_1) ∧ Aside0 (Below w.heap.size w w'))
    case atStart => exact ⟨(([] : List (S30))), (0), (0), (by first | rfl | (simp; done) | (simp [*]; done)), (by first | rfl | (simp; done) | (simp [*]; done)), H', ⟨Nat.le_refl _⟩, ⟨by first | exact Kd.R_nil _ _ _ _ _ | exact Kd.N_nil _ _ _ _ _ | exact Kd.V_nil _ _ _ _ _ | exact Kd.Q_nil _ _ _ _ _ | exact Kd.S_nil _ _ _ _ _⟩, ⟨by repeat (first | (with_reducible first | exact HB.out | apply below_alloc | apply pw_below_drewN | apply below_drew1) | exact HB.out)⟩⟩
    case round =>
      clear H'
      try clear c1
      try clear p2
      obtain ⟨x7_1, x8_1, x16_1, rfl, rfl, HA, HK1, HO_7, HB⟩ := hrel
      cases gk with
      | zero => exact absurd HA.out (by simp [insolvencylaw0_Rows.l0])
      | succ k1 =>
        have H := HA.out
        clear HA
        simp only [insolvencylaw0_Rows.l0] at H
        by_cases c5 : x16_1 < (l0.length : Int)
        · rw [if_pos c5] at H
          have c5b0 : decide (x16_1 < (l0.length : Int)) = true := decide_eq_true c5
          clear c5
          (first | rw [c5b0] | (simp only [i64_w, i32_w]; rw [c5b0]) | skip)
          by_cases c6 : 0 ≤ x16_1
          · rw [if_pos c6] at H
            have c6b0 : decide (0 ≤ x16_1) = true := decide_eq_true c6
            clear c6
            by_cases c7 : x16_1 < (l0.length : Int)
            · rw [if_pos c7] at H
              have c7b0 : decide (x16_1 < (l0.length : Int)) = true := decide_eq_true c7
              clear c7
              have HC8 := Aside0.mk H
              clear H
              have p107 : 0 ≤ (x16_1 : Int) := of_decide_eq_true (by first | (with_reducible assumption) | assumption)
              have q107 : x16_1 < (l0.length : Int) := of_decide_eq_true (by first | (with_reducible assumption) | assumption)
              obtain ⟨ad107, e107, hx107_0, hx107_1, hx107_2, hx107_3, hx107_4⟩ := at_T47 HR0.out x16_1 p107 q107
              cases e107
              replace hx107_0 := (HB.out.cell (World.block_lt_of_cell? w _ hx107_0)).trans hx107_0
              replace hx107_1 := (HB.out.cell (World.block_lt_of_cell? w _ hx107_1)).trans hx107_1
              replace hx107_2 := (HB.out.cell (World.block_lt_of_cell? w _ hx107_2)).trans hx107_2
              replace hx107_3 := (HB.out.cell (World.block_lt_of_cell? w _ hx107_3)).trans hx107_3
              replace hx107_4 := (HB.out.cell (World.block_lt_of_cell? w _ hx107_4)).trans hx107_4
              replace p107 := eq_true p107
              replace q107 := eq_true q107
              go_upto_region 6 with (first | ((with_reducible refine gate_dst (N := 10) rfl ?_); refine box_event ?hg (N := 10) ?hd (cs := #[.int .u16 0, .int .u16 0, .int .u16 0, .int .u16 0, .int .u16 0]) (t := 47) ?hr ?_; (case hd => rfl); (case hg => rfl); (case hr => first | (go_simp; done) | (go_simp; rfl)); intro gb108 hg w9 hbox hb; have n0_ := Aside0.mk (Kd.R_below (by (with_reducible repeat (first | apply Kd.R_alloc | apply Kd.R_drewN | apply Kd.R_drew)); exact HO_7.out) hb); have n1_ := Aside0.mk (below_step (by repeat (first | (with_reducible first | exact HB.out | apply below_alloc | apply pw_below_drewN | apply below_drew1) | exact HB.out)) hb); have n2_ := Aside0.mk (hbox); have n3_ := Aside0.mk ((by rw [hg]; exact (below_size (by repeat (first | (with_reducible first | exact HB.out | apply below_alloc | apply pw_below_drewN | apply below_drew1) | exact HB.out))) : w.heap.size ≤ gb108)); have n4_ := Aside0.mk ((by rw [hg]; exact (below_size (by repeat (first | (with_reducible first | exact HB.out | apply below_alloc | apply pw_below_drewN | apply below_drew1) | exact HB.out))) : w.heap.size ≤ gb108)); clear HO_7; clear HB; have HO_7 := n0_; have HB := n1_; have BK108 := n2_; have GW108 := n3_; have GE108 := n4_; clear n0_ n1_ n2_ n3_ n4_; clear hb hbox hg; have hcz10_0 : w9.cell? ⟨gb108, 0, none⟩ = some (.int .u16 0) := (blk_cell BK108.out 0).trans rfl; have hcz10_1 : w9.cell? ⟨gb108, 1, none⟩ = some (.int .u16 0) := (blk_cell BK108.out 1).trans rfl; have hcz10_2 : w9.cell? ⟨gb108, 2, none⟩ = some (.int .u16 0) := (blk_cell BK108.out 2).trans rfl; have hcz10_3 : w9.cell? ⟨gb108, 3, none⟩ = some (.int .u16 0) := (blk_cell BK108.out 3).trans rfl; have hcz10_4 : w9.cell? ⟨gb108, 4, none⟩ = some (.int .u16 0) := (blk_cell BK108.out 4).trans rfl; have hfz10_0 := blk_frozen BK108.out 0; have hfz10_1 := blk_frozen BK108.out 1; have hfz10_2 := blk_frozen BK108.out 2; have hfz10_3 := blk_frozen BK108.out 3; have hfz10_4 := blk_frozen BK108.out 4))
              (try simp only [Act.put, List.setIfInBounds_toArray, List.set_cons_zero, List.set_cons_succ])
              go_cut [27] (fun v27 wc => ∃ (kq : Nat) (x27_7 : Bool), v27 = .bool x27_7 ∧ Aside0 (insolvencylaw0_Rows.j1 kq a1 a2 x7_1 x8_1 l0 (l0.length : Int) x16_1 x27_7 ((rd_T47 l0 x16_1).f0) ((rd_T47 l0 x16_1).f1) ((rd_T47 l0 x16_1).f2) ((rd_T47 l0 x16_1).f3) ((rd_T47 l0 x16_1).f4) = some r) ∧ Aside0 (kq ≤ k1) ∧ Aside0 (Kd.R k30 30 wc w.heap.size (fun _ => True) u7 x7_1) ∧ Aside0 (wc.heap[gb108]? = some (.cells #[.int .u16 ((rd_T47 l0 x16_1).f0), .int .u16 ((rd_T47 l0 x16_1).f1), .int .u16 ((rd_T47 l0 x16_1).f2), .int .u16 ((rd_T47 l0 x16_1).f3), .int .u16 ((rd_T47 l0 x16_1).f4)] 47 (0, 0))) ∧ Aside0 (Below w.heap.size w wc))
              case first =>
                have H := HC8.out
                clear HC8
                by_cases c11 : (x7_1.length : Int) ≥ a2
                · rw [if_pos c11] at H
                  have c11b0 : decide (a2 ≤ (x7_1.length : Int)) = true := decide_eq_true c11
                  clear c11
                  (first | rw [c11b0] | (simp only [i64_w, i32_w]; rw [c11b0]) | skip)
                  have H' := Aside0.mk H
                  clear H
                  obtain ⟨Ao12, co12, eo12⟩ := Kd.R_slice HO_7.out
                  subst eo12
                  go_wp2
                  go_meet
                  case rel => exact ⟨_, (true), (by first | rfl | (simp; done) | (simp [*]; done)), H', ⟨by have := HK1.out; first | omega | exact Nat.le_refl _⟩, ⟨by (with_reducible repeat (first | apply Kd.R_alloc | apply Kd.R_drewN | apply Kd.R_drew)); exact Kd.R_mono (Kd.R_far (p := ⟨gb108, 4, none⟩) (Kd.R_far (p := ⟨gb108, 3, none⟩) (Kd.R_far (p := ⟨gb108, 2, none⟩) (Kd.R_far (p := ⟨gb108, 1, none⟩) (Kd.R_far (p := ⟨gb108, 0, none⟩) (Kd.R_types HO_7.out BK108.out (by decide)) (fun _ hk => hk.2) (.int .u16 ((rd_T47 l0 x16_1).f0))) (fun _ hk => hk.2) (.int .u16 ((rd_T47 l0 x16_1).f1))) (fun _ hk => hk.2) (.int .u16 ((rd_T47 l0 x16_1).f2))) (fun _ hk => hk.2) (.int .u16 ((rd_T47 l0 x16_1).f3))) (fun _ hk => hk.2) (.int .u16 ((rd_T47 l0 x16_1).f4))) (fun _ hk => trivial)⟩, ⟨by (with_reducible repeat (first | refine blk_drewN ?_ _ | refine blk_drew ?_ | refine blk_alloc ?_ _)); refine blk_put (cs := #[.int .u16 ((rd_T47 l0 x16_1).f0), .int .u16 ((rd_T47 l0 x16_1).f1), .int .u16 ((rd_T47 l0 x16_1).f2), .int .u16 ((rd_T47 l0 x16_1).f3), .int .u16 0]) ?_ 4 _ rfl; (with_reducible repeat (first | refine blk_drewN ?_ _ | refine blk_drew ?_ | refine blk_alloc ?_ _)); refine blk_put (cs := #[.int .u16 ((rd_T47 l0 x16_1).f0), .int .u16 ((rd_T47 l0 x16_1).f1), .int .u16 ((rd_T47 l0 x16_1).f2), .int .u16 0, .int .u16 0]) ?_ 3 _ rfl; (with_reducible repeat (first | refine blk_drewN ?_ _ | refine blk_drew ?_ | refine blk_alloc ?_ _)); refine blk_put (cs := #[.int .u16 ((rd_T47 l0 x16_1).f0), .int .u16 ((rd_T47 l0 x16_1).f1), .int .u16 0, .int .u16 0, .int .u16 0]) ?_ 2 _ rfl; (with_reducible repeat (first | refine blk_drewN ?_ _ | refine blk_drew ?_ | refine blk_alloc ?_ _)); refine blk_put (cs := #[.int .u16 ((rd_T47 l0 x16_1).f0), .int .u16 0, .int .u16 0, .int .u16 0, .int .u16 0]) ?_ 1 _ rfl; (with_reducible repeat (first | refine blk_drewN ?_ _ | refine blk_drew ?_ | refine blk_alloc ?_ _)); refine blk_put (cs := #[.int .u16 0, .int .u16 0, .int .u16 0, .int .u16 0, .int .u16 0]) ?_ 0 _ rfl; (with_reducible repeat (first | refine blk_drewN ?_ _ | refine blk_drew ?_ | refine blk_alloc ?_ _)); exact BK108.out⟩, ⟨by repeat (first | (with_reducible first | exact HB.out | apply below_alloc | apply pw_below_drewN | apply below_drew1 | refine below_set ?_ GE108.out) | exact HB.out)⟩⟩
                · rw [if_neg c11] at H
                  have c11b0 : decide (a2 ≤ (x7_1.length : Int)) = false := decide_eq_false c11
                  clear c11
                  (first | rw [c11b0] | (simp only [i64_w, i32_w]; rw [c11b0]) | skip)
                  have H' := Aside0.mk H
                  clear H
                  obtain ⟨Ao13, co13, eo13⟩ := Kd.R_slice HO_7.out
                  subst eo13
                  go_wp2
                  go_meet
                  case rel => exact ⟨_, (decide (a1 < 2)), (by first | rfl | (simp; done) | (simp [*]; done)), H', ⟨by have := HK1.out; first | omega | exact Nat.le_refl _⟩, ⟨by (with_reducible repeat (first | apply Kd.R_alloc | apply Kd.R_drewN | apply Kd.R_drew)); exact Kd.R_mono (Kd.R_far (p := ⟨gb108, 4, none⟩) (Kd.R_far (p := ⟨gb108, 3, none⟩) (Kd.R_far (p := ⟨gb108, 2, none⟩) (Kd.R_far (p := ⟨gb108, 1, none⟩) (Kd.R_far (p := ⟨gb108, 0, none⟩) (Kd.R_types HO_7.out BK108.out (by decide)) (fun _ hk => hk.2) (.int .u16 ((rd_T47 l0 x16_1).f0))) (fun _ hk => hk.2) (.int .u16 ((rd_T47 l0 x16_1).f1))) (fun _ hk => hk.2) (.int .u16 ((rd_T47 l0 x16_1).f2))) (fun _ hk => hk.2) (.int .u16 ((rd_T47 l0 x16_1).f3))) (fun _ hk => hk.2) (.int .u16 ((rd_T47 l0 x16_1).f4))) (fun _ hk => trivial)⟩, ⟨by (with_reducible repeat (first | refine blk_drewN ?_ _ | refine blk_drew ?_ | refine blk_alloc ?_ _)); refine blk_put (cs := #[.int .u16 ((rd_T47 l0 x16_1).f0), .int .u16 ((rd_T47 l0 x16_1).f1), .int .u16 ((rd_T47 l0 x16_1).f2), .int .u16 ((rd_T47 l0 x16_1).f3), .int .u16 0]) ?_ 4 _ rfl; (with_reducible repeat (first | refine blk_drewN ?_ _ | refine blk_drew ?_ | refine blk_alloc ?_ _)); refine blk_put (cs := #[.int .u16 ((rd_T47 l0 x16_1).f0), .int .u16 ((rd_T47 l0 x16_1).f1), .int .u16 ((rd_T47 l0 x16_1).f2), .int .u16 0, .int .u16 0]) ?_ 3 _ rfl; (with_reducible repeat (first | refine blk_drewN ?_ _ | refine blk_drew ?_ | refine blk_alloc ?_ _)); refine blk_put (cs := #[.int .u16 ((rd_T47 l0 x16_1).f0), .int .u16 ((rd_T47 l0 x16_1).f1), .int .u16 0, .int .u16 0, .int .u16 0]) ?_ 2 _ rfl; (with_reducible repeat (first | refine blk_drewN ?_ _ | refine blk_drew ?_ | refine blk_alloc ?_ _)); refine blk_put (cs := #[.int .u16 ((rd_T47 l0 x16_1).f0), .int .u16 0, .int .u16 0, .int .u16 0, .int .u16 0]) ?_ 1 _ rfl; (with_reducible repeat (first | refine blk_drewN ?_ _ | refine blk_drew ?_ | refine blk_alloc ?_ _)); refine blk_put (cs := #[.int .u16 0, .int .u16 0, .int .u16 0, .int .u16 0, .int .u16 0]) ?_ 0 _ rfl; (with_reducible repeat (first | refine blk_drewN ?_ _ | refine blk_drew ?_ | refine blk_alloc ?_ _)); exact BK108.out⟩, ⟨by repeat (first | (with_reducible first | exact HB.out | apply below_alloc | apply pw_below_drewN | apply below_drew1 | refine below_set ?_ GE108.out) | exact HB.out)⟩⟩
              case rest =>
                clear HC8
                try clear c1
                try clear p1
                try clear q1
                try clear hx1
                try clear p2
                try clear c5
                try clear c5b0
                try clear c6
                try clear c6b0
                try clear c7
                try clear c7b0
                try clear c10
                try clear p10
                try clear q10
                try clear hx10
                try clear c11
                try clear c11b0
                try clear hcz10_0
                try clear hcz10_1
                try clear hcz10_2
                try clear hcz10_3
                try clear hcz10_4
                try clear hfz10_0
                try clear hfz10_1
                try clear hfz10_2
                try clear hfz10_3
                try clear hfz10_4
                try clear hx107_0
                try clear hx107_1
                try clear hx107_2
                try clear hx107_3
                try clear hx107_4
                try clear p107
                try clear p2
                try clear q107
                obtain ⟨kq, x27_7, rfl, HA, HJ7, HO_7, BK108, HB⟩ := hcut
                cases kq with
                | zero => exact absurd HA.out (by simp [insolvencylaw0_Rows.j1])
                | succ kj7 =>
                  have H := HA.out
                  clear HA
                  simp only [insolvencylaw0_Rows.j1] at H
                  by_cases c14 : x27_7 = true
                  · subst c14
                    have H1 : (insolvencylaw0_Rows.j4 kj7 x7_1) = some r := by rw [if_pos rfl] at H; exact H
                    clear H
                    have H := H1
                    clear H1
                    have H' := Aside0.mk H
                    clear H
                    go_wp2
                    go_meet
                    case rel => exact ⟨_, (x7_1), H', ⟨by have := HK1.out; have := HJ7.out; first | omega | exact Nat.le_refl _⟩, ⟨by (with_reducible repeat (first | apply Kd.R_alloc | apply Kd.R_drewN | apply Kd.R_drew)); exact HO_7.out⟩, ⟨by repeat (first | (with_reducible first | exact HB.out | apply below_alloc | apply pw_below_drewN | apply below_drew1 | refine below_set ?_ GE108.out) | exact HB.out)⟩⟩
                  · replace c14 := Bool.eq_false_iff.mpr c14
                    subst c14
                    have H1 : (if a1 = 0 then (none) else (if (wrap64 (a1 - 1)) = 0 then (none) else (if (Int.tmod (wrap64 (((rd_T47 l0 x16_1).f3))) (wrap64 (a1 - 1))) ≥ (Int.tmod (wrap64 (((rd_T47 l0 x16_1).f2))) a1) then (insolvencylaw0_Rows.j2 kj7 a1 a2 x7_1 (wrap64 (x8_1 + (wrap64 (Int.tmod ((rd_T47 l0 x16_1).f0) 6)))) (Int.tmod (wrap64 (((rd_T47 l0 x16_1).f2))) a1) (wrap64 ((Int.tmod (wrap64 (((rd_T47 l0 x16_1).f3))) (wrap64 (a1 - 1))) + 1)) l0 (l0.length : Int) x16_1 ((rd_T47 l0 x16_1).f0) ((rd_T47 l0 x16_1).f1) ((rd_T47 l0 x16_1).f2) ((rd_T47 l0 x16_1).f3) ((rd_T47 l0 x16_1).f4)) else (insolvencylaw0_Rows.j2 kj7 a1 a2 x7_1 (wrap64 (x8_1 + (wrap64 (Int.tmod ((rd_T47 l0 x16_1).f0) 6)))) (Int.tmod (wrap64 (((rd_T47 l0 x16_1).f2))) a1) (Int.tmod (wrap64 (((rd_T47 l0 x16_1).f3))) (wrap64 (a1 - 1))) l0 (l0.length : Int) x16_1 ((rd_T47 l0 x16_1).f0) ((rd_T47 l0 x16_1).f1) ((rd_T47 l0 x16_1).f2) ((rd_T47 l0 x16_1).f3) ((rd_T47 l0 x16_1).f4))))) = some r := by rw [if_neg (show ¬ (false = true) by decide)] at H; exact H
                    clear H
                    have H := H1
                    clear H1
                    by_cases c15 : a1 = 0
                    · rw [if_pos c15] at H
                      exact absurd H (by simp)
                    · rw [if_neg c15] at H
                      have c15b0 : (a1 == 0) = false := beq_eq_false_iff_ne.mpr c15
                      have c15b1 : (a1 != 0) = true := bne_iff_ne.mpr c15
                      by_cases c16 : (wrap64 (a1 - 1)) = 0
                      · rw [if_pos c16] at H
                        exact absurd H (by simp)
                      · rw [if_neg c16] at H
                        have c16b0 : ((wrap64 (a1 - 1)) == 0) = false := beq_eq_false_iff_ne.mpr c16
                        have c16b1 : ((wrap64 (a1 - 1)) != 0) = true := bne_iff_ne.mpr c16
                        have HC17 := Aside0.mk H
                        clear H
                        have hcz18_0 : wc.cell? ⟨gb108, 0, none⟩ = some (.int .u16 ((rd_T47 l0 x16_1).f0)) := (blk_cell BK108.out 0).trans rfl
                        have hcz18_1 : wc.cell? ⟨gb108, 1, none⟩ = some (.int .u16 ((rd_T47 l0 x16_1).f1)) := (blk_cell BK108.out 1).trans rfl
                        have hcz18_2 : wc.cell? ⟨gb108, 2, none⟩ = some (.int .u16 ((rd_T47 l0 x16_1).f2)) := (blk_cell BK108.out 2).trans rfl
                        have hcz18_3 : wc.cell? ⟨gb108, 3, none⟩ = some (.int .u16 ((rd_T47 l0 x16_1).f3)) := (blk_cell BK108.out 3).trans rfl
                        have hcz18_4 : wc.cell? ⟨gb108, 4, none⟩ = some (.int .u16 ((rd_T47 l0 x16_1).f4)) := (blk_cell BK108.out 4).trans rfl
                        have hfz18_0 := blk_frozen BK108.out 0
                        have hfz18_1 := blk_frozen BK108.out 1
                        have hfz18_2 := blk_frozen BK108.out 2
                        have hfz18_3 := blk_frozen BK108.out 3
                        have hfz18_4 := blk_frozen BK108.out 4
                        go_upto_if 47 with (fail)
                        go_cut [12] (fun v12 wc => ∃ (kq : Nat) (x12_16 : Int), v12 = .int .i64 x12_16 ∧ Aside0 (insolvencylaw0_Rows.j2 kq a1 a2 x7_1 (wrap64 (x8_1 + (wrap64 (Int.tmod ((rd_T47 l0 x16_1).f0) 6)))) (Int.tmod (wrap64 (((rd_T47 l0 x16_1).f2))) a1) x12_16 l0 (l0.length : Int) x16_1 ((rd_T47 l0 x16_1).f0) ((rd_T47 l0 x16_1).f1) ((rd_T47 l0 x16_1).f2) ((rd_T47 l0 x16_1).f3) ((rd_T47 l0 x16_1).f4) = some r) ∧ Aside0 (kq ≤ kj7) ∧ Aside0 (Kd.R k30 30 wc w.heap.size (fun _ => True) u7 x7_1) ∧ Aside0 (wc.heap[gb108]? = some (.cells #[.int .u16 ((rd_T47 l0 x16_1).f0), .int .u16 ((rd_T47 l0 x16_1).f1), .int .u16 ((rd_T47 l0 x16_1).f2), .int .u16 ((rd_T47 l0 x16_1).f3), .int .u16 ((rd_T47 l0 x16_1).f4)] 47 (0, 0))) ∧ Aside0 (Below w.heap.size w wc))
                        case first =>
                          have H := HC17.out
                          clear HC17
                          by_cases c19 : (Int.tmod (wrap64 (((rd_T47 l0 x16_1).f3))) (wrap64 (a1 - 1))) ≥ (Int.tmod (wrap64 (((rd_T47 l0 x16_1).f2))) a1)
                          · rw [if_pos c19] at H
                            have c19b0 : decide ((Int.tmod (wrap64 (((rd_T47 l0 x16_1).f2))) a1) ≤ (Int.tmod (wrap64 (((rd_T47 l0 x16_1).f3))) (wrap64 (a1 - 1)))) = true := decide_eq_true c19
                            clear c19
                            (first | rw [c19b0] | (simp only [i64_w, i32_w]; rw [c19b0]) | skip)
                            have H' := Aside0.mk H
                            clear H
                            go_wp2
                            go_meet
                            case rel => exact ⟨_, (wrap64 ((Int.tmod (wrap64 (((rd_T47 l0 x16_1).f3))) (wrap64 (a1 - 1))) + 1)), (by first | rfl | (simp; done) | (simp [*]; done)), H', ⟨by have := HK1.out; have := HJ7.out; first | omega | exact Nat.le_refl _⟩, ⟨by (with_reducible repeat (first | apply Kd.R_alloc | apply Kd.R_drewN | apply Kd.R_drew)); exact HO_7.out⟩, ⟨by (with_reducible repeat (first | refine blk_drewN ?_ _ | refine blk_drew ?_ | refine blk_alloc ?_ _)); exact BK108.out⟩, ⟨by repeat (first | (with_reducible first | exact HB.out | apply below_alloc | apply pw_below_drewN | apply below_drew1 | refine below_set ?_ GE108.out) | exact HB.out)⟩⟩
                          · rw [if_neg c19] at H
                            have c19b0 : decide ((Int.tmod (wrap64 (((rd_T47 l0 x16_1).f2))) a1) ≤ (Int.tmod (wrap64 (((rd_T47 l0 x16_1).f3))) (wrap64 (a1 - 1)))) = false := decide_eq_false c19
                            clear c19
                            (first | rw [c19b0] | (simp only [i64_w, i32_w]; rw [c19b0]) | skip)
                            have H' := Aside0.mk H
                            clear H
                            go_wp2
                            go_meet
                            case rel => exact ⟨_, (Int.tmod (wrap64 (((rd_T47 l0 x16_1).f3))) (wrap64 (a1 - 1))), (by first | rfl | (simp; done) | (simp [*]; done)), H', ⟨by have := HK1.out; have := HJ7.out; first | omega | exact Nat.le_refl _⟩, ⟨by (with_reducible repeat (first | apply Kd.R_alloc | apply Kd.R_drewN | apply Kd.R_drew)); exact HO_7.out⟩, ⟨by (with_reducible repeat (first | refine blk_drewN ?_ _ | refine blk_drew ?_ | refine blk_alloc ?_ _)); exact BK108.out⟩, ⟨by repeat (first | (with_reducible first | exact HB.out | apply below_alloc | apply pw_below_drewN | apply below_drew1 | refine below_set ?_ GE108.out) | exact HB.out)⟩⟩
                        case rest =>
                          clear HC17
                          try clear c1
                          try clear p1
                          try clear q1
                          try clear hx1
                          try clear p2
                          try clear c5
                          try clear c5b0
                          try clear c6
                          try clear c6b0
                          try clear p6
                          try clear c7
                          try clear c7b0
                          try clear c10
                          try clear p10
                          try clear q10
                          try clear hx10
                          try clear c11
                          try clear c11b0
                          try clear c14
                          try clear c15
                          try clear c15b0
                          try clear c15b1
                          try clear c16
                          try clear c16b0
                          try clear c16b1
                          try clear c19
                          try clear c19b0
                          try clear hcz10_0
                          try clear hcz10_1
                          try clear hcz10_2
                          try clear hcz10_3
                          try clear hcz10_4
                          try clear hcz18_0
                          try clear hcz18_1
                          try clear hcz18_2
                          try clear hcz18_3
                          try clear hcz18_4
                          try clear hfz10_0
                          try clear hfz10_1
                          try clear hfz10_2
                          try clear hfz10_3
                          try clear hfz10_4
                          try clear hfz18_0
                          try clear hfz18_1
                          try clear hfz18_2
                          try clear hfz18_3
                          try clear hfz18_4
                          try clear hx107_0
                          try clear hx107_1
                          try clear hx107_2
                          try clear hx107_3
                          try clear hx107_4
                          try clear p1
                          try clear p10
                          try clear p107
                          try clear p2
                          try clear q1
                          try clear q10
                          try clear q107
                          obtain ⟨kq, x12_16, rfl, HA, HJ16, HO_7, BK108, HB⟩ := hcut
                          cases kq with
                          | zero => exact absurd HA.out (by simp [insolvencylaw0_Rows.j2])
                          | succ kj16 =>
                            have H := HA.out
                            clear HA
                            simp only [insolvencylaw0_Rows.j2] at H
                            have HC20 := Aside0.mk H
                            clear H
                            have hcz21_0 : wc.cell? ⟨gb108, 0, none⟩ = some (.int .u16 ((rd_T47 l0 x16_1).f0)) := (blk_cell BK108.out 0).trans rfl
                            have hcz21_1 : wc.cell? ⟨gb108, 1, none⟩ = some (.int .u16 ((rd_T47 l0 x16_1).f1)) := (blk_cell BK108.out 1).trans rfl
                            have hcz21_2 : wc.cell? ⟨gb108, 2, none⟩ = some (.int .u16 ((rd_T47 l0 x16_1).f2)) := (blk_cell BK108.out 2).trans rfl
                            have hcz21_3 : wc.cell? ⟨gb108, 3, none⟩ = some (.int .u16 ((rd_T47 l0 x16_1).f3)) := (blk_cell BK108.out 3).trans rfl
                            have hcz21_4 : wc.cell? ⟨gb108, 4, none⟩ = some (.int .u16 ((rd_T47 l0 x16_1).f4)) := (blk_cell BK108.out 4).trans rfl
                            have hfz21_0 := blk_frozen BK108.out 0
                            have hfz21_1 := blk_frozen BK108.out 1
                            have hfz21_2 := blk_frozen BK108.out 2
                            have hfz21_3 := blk_frozen BK108.out 3
                            have hfz21_4 := blk_frozen BK108.out 4
                            go_upto_if 65 with (first | ((with_reducible refine gate_dst (N := 13) rfl ?_); refine box_event ?hg (N := 13) ?hd (cs := #[.int .i64 0, .int .i64 0, .int .i64 0, .int .i64 0, .int .i64 0, .int .i64 0]) (t := 30) ?hr ?_; (case hd => rfl); (case hg => rfl); (case hr => first | (go_simp; done) | (go_simp; rfl)); intro gb109 hg w22 hbox hb; have n0_ := Aside0.mk (Kd.R_below (Kd.R_elderB (by (with_reducible repeat (first | apply Kd.R_alloc | apply Kd.R_drewN | apply Kd.R_drew)); exact HO_7.out) gb109 (Nat.le_of_eq hg.symm)) hb); have n1_ := Aside0.mk (blk_below (g := gb108) (o := .cells #[.int .u16 ((rd_T47 l0 x16_1).f0), .int .u16 ((rd_T47 l0 x16_1).f1), .int .u16 ((rd_T47 l0 x16_1).f2), .int .u16 ((rd_T47 l0 x16_1).f3), .int .u16 ((rd_T47 l0 x16_1).f4)] 47 (0, 0)) (by (with_reducible repeat (first | refine blk_drewN ?_ _ | refine blk_drew ?_ | refine blk_alloc ?_ _)); exact BK108.out) hb); have n2_ := Aside0.mk (below_step (by repeat (first | (with_reducible first | exact HB.out | apply below_alloc | apply pw_below_drewN | apply below_drew1 | refine below_set ?_ GE108.out) | exact HB.out)) hb); have n3_ := Aside0.mk (hbox); have n4_ := Aside0.mk ((by rw [hg]; exact (below_size (by repeat (first | (with_reducible first | exact HB.out | apply below_alloc | apply pw_below_drewN | apply below_drew1 | refine below_set ?_ GE108.out) | exact HB.out))) : w.heap.size ≤ gb109)); have n5_ := Aside0.mk ((by rw [hg]; exact (below_size (by repeat (first | (with_reducible first | exact HB.out | apply below_alloc | apply pw_below_drewN | apply below_drew1 | refine below_set ?_ GE108.out) | exact HB.out))) : w.heap.size ≤ gb109)); have n6_ := Aside0.mk ((by rw [hg]; exact Nat.ne_of_lt (blk_lt (g := gb108) (o := .cells #[.int .u16 ((rd_T47 l0 x16_1).f0), .int .u16 ((rd_T47 l0 x16_1).f1), .int .u16 ((rd_T47 l0 x16_1).f2), .int .u16 ((rd_T47 l0 x16_1).f3), .int .u16 ((rd_T47 l0 x16_1).f4)] 47 (0, 0)) (by (with_reducible repeat (first | refine blk_drewN ?_ _ | refine blk_drew ?_ | refine blk_alloc ?_ _)); exact BK108.out)) : gb108 ≠ gb109)); have n7_ := Aside0.mk ((by rw [hg]; exact Nat.ne_of_gt (blk_lt (g := gb108) (o := .cells #[.int .u16 ((rd_T47 l0 x16_1).f0), .int .u16 ((rd_T47 l0 x16_1).f1), .int .u16 ((rd_T47 l0 x16_1).f2), .int .u16 ((rd_T47 l0 x16_1).f3), .int .u16 ((rd_T47 l0 x16_1).f4)] 47 (0, 0)) (by (with_reducible repeat (first | refine blk_drewN ?_ _ | refine blk_drew ?_ | refine blk_alloc ?_ _)); exact BK108.out)) : gb109 ≠ gb108)); clear HO_7; clear BK108; clear HB; have HO_7 := n0_; have BK108 := n1_; have HB := n2_; have BK109 := n3_; have GW109 := n4_; have GE109 := n5_; have NB108_109 := n6_; have NB109_108 := n7_; clear n0_ n1_ n2_ n3_ n4_ n5_ n6_ n7_; clear hb hbox hg; have hnb23 := NB109_108.out; have hnc23 := NB108_109.out; have hcz24_0 : w22.cell? ⟨gb109, 0, none⟩ = some (.int .i64 0) := (blk_cell BK109.out 0).trans rfl; have hcz24_1 : w22.cell? ⟨gb109, 1, none⟩ = some (.int .i64 0) := (blk_cell BK109.out 1).trans rfl; have hcz24_2 : w22.cell? ⟨gb109, 2, none⟩ = some (.int .i64 0) := (blk_cell BK109.out 2).trans rfl; have hcz24_3 : w22.cell? ⟨gb109, 3, none⟩ = some (.int .i64 0) := (blk_cell BK109.out 3).trans rfl; have hcz24_4 : w22.cell? ⟨gb109, 4, none⟩ = some (.int .i64 0) := (blk_cell BK109.out 4).trans rfl; have hcz24_5 : w22.cell? ⟨gb109, 5, none⟩ = some (.int .i64 0) := (blk_cell BK109.out 5).trans rfl; have hfz24_0 := blk_frozen BK109.out 0; have hfz24_1 := blk_frozen BK109.out 1; have hfz24_2 := blk_frozen BK109.out 2; have hfz24_3 := blk_frozen BK109.out 3; have hfz24_4 := blk_frozen BK109.out 4; have hfz24_5 := blk_frozen BK109.out 5))
                            (try simp only [Act.put, List.setIfInBounds_toArray, List.set_cons_zero, List.set_cons_succ])
                            go_cut [] (fun wc => ∃ (kq : Nat) (x110005_19 : Int), Aside0 (insolvencylaw0_Rows.j3 kq a1 a2 x7_1 (wrap64 (x8_1 + (wrap64 (Int.tmod ((rd_T47 l0 x16_1).f0) 6)))) l0 (l0.length : Int) x16_1 (wrap64 (x8_1 + (wrap64 (Int.tmod ((rd_T47 l0 x16_1).f0) 6)))) (wrap64 (1 + (wrap64 (Int.tmod ((rd_T47 l0 x16_1).f1) 3)))) (Int.tmod (wrap64 (((rd_T47 l0 x16_1).f2))) a1) x12_16 (wrap64 (Int.tmod ((rd_T47 l0 x16_1).f4) 40)) x110005_19 = some r) ∧ Aside0 (kq ≤ kj16) ∧ Aside0 (Kd.R k30 30 wc w.heap.size (fun k_ => k_ ≠ gb109) u7 x7_1) ∧ Aside0 (wc.heap[gb108]? = some (.cells #[.int .u16 ((rd_T47 l0 x16_1).f0), .int .u16 ((rd_T47 l0 x16_1).f1), .int .u16 ((rd_T47 l0 x16_1).f2), .int .u16 ((rd_T47 l0 x16_1).f3), .int .u16 ((rd_T47 l0 x16_1).f4)] 47 (0, 0))) ∧ Aside0 (wc.heap[gb109]? = some (.cells #[.int .i64 (wrap64 (x8_1 + (wrap64 (Int.tmod ((rd_T47 l0 x16_1).f0) 6)))), .int .i64 (wrap64 (1 + (wrap64 (Int.tmod ((rd_T47 l0 x16_1).f1) 3)))), .int .i64 (Int.tmod (wrap64 (((rd_T47 l0 x16_1).f2))) a1), .int .i64 x12_16, .int .i64 (wrap64 (Int.tmod ((rd_T47 l0 x16_1).f4) 40)), .int .i64 x110005_19] 30 (0, 0))) ∧ Aside0 (Below w.heap.size w wc))
                            case first =>
                              have H := HC20.out
                              clear HC20
                              by_cases c25 : (wrap64 (1 + (wrap64 (Int.tmod ((rd_T47 l0 x16_1).f1) 3)))) = 3
                              · rw [if_pos c25] at H
                                have c25b0 : ((wrap64 (1 + (wrap64 (Int.tmod ((rd_T47 l0 x16_1).f1) 3)))) == 3) = true := beq_iff_eq.mpr c25
                                have c25b1 : ((wrap64 (1 + (wrap64 (Int.tmod ((rd_T47 l0 x16_1).f1) 3)))) != 3) = false := bne_eq_false_iff_eq.mpr c25
                                clear c25
                                (first | rw [c25b0] | (simp only [i64_w, i32_w]; rw [c25b0]) | skip)
                                have H' := Aside0.mk H
                                clear H
                                have hnb26 := NB108_109.out
                                have hnc26 := NB109_108.out
                                have hcz27_0 : w22.cell? ⟨gb108, 0, none⟩ = some (.int .u16 ((rd_T47 l0 x16_1).f0)) := (blk_cell BK108.out 0).trans rfl
                                have hcz27_1 : w22.cell? ⟨gb108, 1, none⟩ = some (.int .u16 ((rd_T47 l0 x16_1).f1)) := (blk_cell BK108.out 1).trans rfl
                                have hcz27_2 : w22.cell? ⟨gb108, 2, none⟩ = some (.int .u16 ((rd_T47 l0 x16_1).f2)) := (blk_cell BK108.out 2).trans rfl
                                have hcz27_3 : w22.cell? ⟨gb108, 3, none⟩ = some (.int .u16 ((rd_T47 l0 x16_1).f3)) := (blk_cell BK108.out 3).trans rfl
                                have hcz27_4 : w22.cell? ⟨gb108, 4, none⟩ = some (.int .u16 ((rd_T47 l0 x16_1).f4)) := (blk_cell BK108.out 4).trans rfl
                                have hfz27_0 := blk_frozen BK108.out 0
                                have hfz27_1 := blk_frozen BK108.out 1
                                have hfz27_2 := blk_frozen BK108.out 2
                                have hfz27_3 := blk_frozen BK108.out 3
                                have hfz27_4 := blk_frozen BK108.out 4
                                have hcz28_0 : w22.cell? ⟨gb109, 0, none⟩ = some (.int .i64 0) := (blk_cell BK109.out 0).trans rfl
                                have hcz28_1 : w22.cell? ⟨gb109, 1, none⟩ = some (.int .i64 0) := (blk_cell BK109.out 1).trans rfl
                                have hcz28_2 : w22.cell? ⟨gb109, 2, none⟩ = some (.int .i64 0) := (blk_cell BK109.out 2).trans rfl
                                have hcz28_3 : w22.cell? ⟨gb109, 3, none⟩ = some (.int .i64 0) := (blk_cell BK109.out 3).trans rfl
                                have hcz28_4 : w22.cell? ⟨gb109, 4, none⟩ = some (.int .i64 0) := (blk_cell BK109.out 4).trans rfl
                                have hcz28_5 : w22.cell? ⟨gb109, 5, none⟩ = some (.int .i64 0) := (blk_cell BK109.out 5).trans rfl
                                have hfz28_0 := blk_frozen BK109.out 0
                                have hfz28_1 := blk_frozen BK109.out 1
                                have hfz28_2 := blk_frozen BK109.out 2
                                have hfz28_3 := blk_frozen BK109.out 3
                                have hfz28_4 := blk_frozen BK109.out 4
                                have hfz28_5 := blk_frozen BK109.out 5
                                go_wp2
                                go_meet
                                case rel => exact ⟨_, (wrap64 (Int.tmod (IntKind.u16.wrap (Int.tdiv ((rd_T47 l0 x16_1).f4) 40)) 60)), H', ⟨by have := HK1.out; have := HJ7.out; have := HJ16.out; first | omega | exact Nat.le_refl _⟩, ⟨by (with_reducible repeat (first | apply Kd.R_alloc | apply Kd.R_drewN | apply Kd.R_drew)); exact Kd.R_mono (Kd.R_far (p := ⟨gb109, 5, none⟩) (Kd.R_far (p := ⟨gb109, 5, none⟩) (Kd.R_far (p := ⟨gb109, 4, none⟩) (Kd.R_far (p := ⟨gb109, 3, none⟩) (Kd.R_far (p := ⟨gb109, 2, none⟩) (Kd.R_far (p := ⟨gb109, 1, none⟩) (Kd.R_far (p := ⟨gb109, 0, none⟩) (Kd.R_mono HO_7.out (fun k_ hk => (⟨hk, hk.2⟩ : _ ∧ k_ ≠ gb109))) (fun _ hk => hk.2) (.int .i64 (wrap64 (x8_1 + (wrap64 (Int.tmod ((rd_T47 l0 x16_1).f0) 6)))))) (fun _ hk => hk.2) (.int .i64 (wrap64 (1 + (wrap64 (Int.tmod ((rd_T47 l0 x16_1).f1) 3)))))) (fun _ hk => hk.2) (.int .i64 (Int.tmod (wrap64 (((rd_T47 l0 x16_1).f2))) a1))) (fun _ hk => hk.2) (.int .i64 x12_16)) (fun _ hk => hk.2) (.int .i64 (wrap64 (Int.tmod ((rd_T47 l0 x16_1).f4) 40)))) (fun _ hk => hk.2) (.int .i64 0)) (fun _ hk => hk.2) (.int .i64 (wrap64 (Int.tmod (IntKind.u16.wrap (Int.tdiv ((rd_T47 l0 x16_1).f4) 40)) 60)))) (fun _ hk => hk.1.2)⟩, ⟨by (with_reducible repeat (first | refine blk_drewN ?_ _ | refine blk_drew ?_ | refine blk_alloc ?_ _)); refine blk_far ?_ NB108_109.out _; (with_reducible repeat (first | refine blk_drewN ?_ _ | refine blk_drew ?_ | refine blk_alloc ?_ _)); refine blk_far ?_ NB108_109.out _; (with_reducible repeat (first | refine blk_drewN ?_ _ | refine blk_drew ?_ | refine blk_alloc ?_ _)); refine blk_far ?_ NB108_109.out _; (with_reducible repeat (first | refine blk_drewN ?_ _ | refine blk_drew ?_ | refine blk_alloc ?_ _)); refine blk_far ?_ NB108_109.out _; (with_reducible repeat (first | refine blk_drewN ?_ _ | refine blk_drew ?_ | refine blk_alloc ?_ _)); refine blk_far ?_ NB108_109.out _; (with_reducible repeat (first | refine blk_drewN ?_ _ | refine blk_drew ?_ | refine blk_alloc ?_ _)); refine blk_far ?_ NB108_109.out _; (with_reducible repeat (first | refine blk_drewN ?_ _ | refine blk_drew ?_ | refine blk_alloc ?_ _)); refine blk_far ?_ NB108_109.out _; (with_reducible repeat (first | refine blk_drewN ?_ _ | refine blk_drew ?_ | refine blk_alloc ?_ _)); exact BK108.out⟩, ⟨by (with_reducible repeat (first | refine blk_drewN ?_ _ | refine blk_drew ?_ | refine blk_alloc ?_ _)); refine blk_put (cs := #[.int .i64 (wrap64 (x8_1 + (wrap64 (Int.tmod ((rd_T47 l0 x16_1).f0) 6)))), .int .i64 (wrap64 (1 + (wrap64 (Int.tmod ((rd_T47 l0 x16_1).f1) 3)))), .int .i64 (Int.tmod (wrap64 (((rd_T47 l0 x16_1).f2))) a1), .int .i64 x12_16, .int .i64 (wrap64 (Int.tmod ((rd_T47 l0 x16_1).f4) 40)), .int .i64 0]) ?_ 5 _ rfl; (with_reducible repeat (first | refine blk_drewN ?_ _ | refine blk_drew ?_ | refine blk_alloc ?_ _)); refine blk_put (cs := #[.int .i64 (wrap64 (x8_1 + (wrap64 (Int.tmod ((rd_T47 l0 x16_1).f0) 6)))), .int .i64 (wrap64 (1 + (wrap64 (Int.tmod ((rd_T47 l0 x16_1).f1) 3)))), .int .i64 (Int.tmod (wrap64 (((rd_T47 l0 x16_1).f2))) a1), .int .i64 x12_16, .int .i64 (wrap64 (Int.tmod ((rd_T47 l0 x16_1).f4) 40)), .int .i64 0]) ?_ 5 _ rfl; (with_reducible repeat (first | refine blk_drewN ?_ _ | refine blk_drew ?_ | refine blk_alloc ?_ _)); refine blk_put (cs := #[.int .i64 (wrap64 (x8_1 + (wrap64 (Int.tmod ((rd_T47 l0 x16_1).f0) 6)))), .int .i64 (wrap64 (1 + (wrap64 (Int.tmod ((rd_T47 l0 x16_1).f1) 3)))), .int .i64 (Int.tmod (wrap64 (((rd_T47 l0 x16_1).f2))) a1), .int .i64 x12_16, .int .i64 0, .int .i64 0]) ?_ 4 _ rfl; (with_reducible repeat (first | refine blk_drewN ?_ _ | refine blk_drew ?_ | refine blk_alloc ?_ _)); refine blk_put (cs := #[.int .i64 (wrap64 (x8_1 + (wrap64 (Int.tmod ((rd_T47 l0 x16_1).f0) 6)))), .int .i64 (wrap64 (1 + (wrap64 (Int.tmod ((rd_T47 l0 x16_1).f1) 3)))), .int .i64 (Int.tmod (wrap64 (((rd_T47 l0 x16_1).f2))) a1), .int .i64 0, .int .i64 0, .int .i64 0]) ?_ 3 _ rfl; (with_reducible repeat (first | refine blk_drewN ?_ _ | refine blk_drew ?_ | refine blk_alloc ?_ _)); refine blk_put (cs := #[.int .i64 (wrap64 (x8_1 + (wrap64 (Int.tmod ((rd_T47 l0 x16_1).f0) 6)))), .int .i64 (wrap64 (1 + (wrap64 (Int.tmod ((rd_T47 l0 x16_1).f1) 3)))), .int .i64 0, .int .i64 0, .int .i64 0, .int .i64 0]) ?_ 2 _ rfl; (with_reducible repeat (first | refine blk_drewN ?_ _ | refine blk_drew ?_ | refine blk_alloc ?_ _)); refine blk_put (cs := #[.int .i64 (wrap64 (x8_1 + (wrap64 (Int.tmod ((rd_T47 l0 x16_1).f0) 6)))), .int .i64 0, .int .i64 0, .int .i64 0, .int .i64 0, .int .i64 0]) ?_ 1 _ rfl; (with_reducible repeat (first | refine blk_drewN ?_ _ | refine blk_drew ?_ | refine blk_alloc ?_ _)); refine blk_put (cs := #[.int .i64 0, .int .i64 0, .int .i64 0, .int .i64 0, .int .i64 0, .int .i64 0]) ?_ 0 _ rfl; (with_reducible repeat (first | refine blk_drewN ?_ _ | refine blk_drew ?_ | refine blk_alloc ?_ _)); exact BK109.out⟩, ⟨by repeat (first | (with_reducible first | exact HB.out | apply below_alloc | apply pw_below_drewN | apply below_drew1 | refine below_set ?_ GE108.out | refine below_set ?_ GE109.out) | exact HB.out)⟩⟩
                              · rw [if_neg c25] at H
                                have c25b0 : ((wrap64 (1 + (wrap64 (Int.tmod ((rd_T47 l0 x16_1).f1) 3)))) == 3) = false := beq_eq_false_iff_ne.mpr c25
                                have c25b1 : ((wrap64 (1 + (wrap64 (Int.tmod ((rd_T47 l0 x16_1).f1) 3)))) != 3) = true := bne_iff_ne.mpr c25
                                (first | rw [c25b0] | (simp only [i64_w, i32_w]; rw [c25b0]) | skip)
                                have H' := Aside0.mk H
                                clear H
                                go_wp2
                                go_meet
                                case rel => exact ⟨_, (0), H', ⟨by have := HK1.out; have := HJ7.out; have := HJ16.out; first | omega | exact Nat.le_refl _⟩, ⟨by (with_reducible repeat (first | apply Kd.R_alloc | apply Kd.R_drewN | apply Kd.R_drew)); exact Kd.R_mono (Kd.R_far (p := ⟨gb109, 5, none⟩) (Kd.R_far (p := ⟨gb109, 4, none⟩) (Kd.R_far (p := ⟨gb109, 3, none⟩) (Kd.R_far (p := ⟨gb109, 2, none⟩) (Kd.R_far (p := ⟨gb109, 1, none⟩) (Kd.R_far (p := ⟨gb109, 0, none⟩) (Kd.R_mono HO_7.out (fun k_ hk => (⟨hk, hk.2⟩ : _ ∧ k_ ≠ gb109))) (fun _ hk => hk.2) (.int .i64 (wrap64 (x8_1 + (wrap64 (Int.tmod ((rd_T47 l0 x16_1).f0) 6)))))) (fun _ hk => hk.2) (.int .i64 (wrap64 (1 + (wrap64 (Int.tmod ((rd_T47 l0 x16_1).f1) 3)))))) (fun _ hk => hk.2) (.int .i64 (Int.tmod (wrap64 (((rd_T47 l0 x16_1).f2))) a1))) (fun _ hk => hk.2) (.int .i64 x12_16)) (fun _ hk => hk.2) (.int .i64 (wrap64 (Int.tmod ((rd_T47 l0 x16_1).f4) 40)))) (fun _ hk => hk.2) (.int .i64 0)) (fun _ hk => hk.1.2)⟩, ⟨by (with_reducible repeat (first | refine blk_drewN ?_ _ | refine blk_drew ?_ | refine blk_alloc ?_ _)); refine blk_far ?_ NB108_109.out _; (with_reducible repeat (first | refine blk_drewN ?_ _ | refine blk_drew ?_ | refine blk_alloc ?_ _)); refine blk_far ?_ NB108_109.out _; (with_reducible repeat (first | refine blk_drewN ?_ _ | refine blk_drew ?_ | refine blk_alloc ?_ _)); refine blk_far ?_ NB108_109.out _; (with_reducible repeat (first | refine blk_drewN ?_ _ | refine blk_drew ?_ | refine blk_alloc ?_ _)); refine blk_far ?_ NB108_109.out _; (with_reducible repeat (first | refine blk_drewN ?_ _ | refine blk_drew ?_ | refine blk_alloc ?_ _)); refine blk_far ?_ NB108_109.out _; (with_reducible repeat (first | refine blk_drewN ?_ _ | refine blk_drew ?_ | refine blk_alloc ?_ _)); refine blk_far ?_ NB108_109.out _; (with_reducible repeat (first | refine blk_drewN ?_ _ | refine blk_drew ?_ | refine blk_alloc ?_ _)); exact BK108.out⟩, ⟨by (with_reducible repeat (first | refine blk_drewN ?_ _ | refine blk_drew ?_ | refine blk_alloc ?_ _)); refine blk_put (cs := #[.int .i64 (wrap64 (x8_1 + (wrap64 (Int.tmod ((rd_T47 l0 x16_1).f0) 6)))), .int .i64 (wrap64 (1 + (wrap64 (Int.tmod ((rd_T47 l0 x16_1).f1) 3)))), .int .i64 (Int.tmod (wrap64 (((rd_T47 l0 x16_1).f2))) a1), .int .i64 x12_16, .int .i64 (wrap64 (Int.tmod ((rd_T47 l0 x16_1).f4) 40)), .int .i64 0]) ?_ 5 _ rfl; (with_reducible repeat (first | refine blk_drewN ?_ _ | refine blk_drew ?_ | refine blk_alloc ?_ _)); refine blk_put (cs := #[.int .i64 (wrap64 (x8_1 + (wrap64 (Int.tmod ((rd_T47 l0 x16_1).f0) 6)))), .int .i64 (wrap64 (1 + (wrap64 (Int.tmod ((rd_T47 l0 x16_1).f1) 3)))), .int .i64 (Int.tmod (wrap64 (((rd_T47 l0 x16_1).f2))) a1), .int .i64 x12_16, .int .i64 0, .int .i64 0]) ?_ 4 _ rfl; (with_reducible repeat (first | refine blk_drewN ?_ _ | refine blk_drew ?_ | refine blk_alloc ?_ _)); refine blk_put (cs := #[.int .i64 (wrap64 (x8_1 + (wrap64 (Int.tmod ((rd_T47 l0 x16_1).f0) 6)))), .int .i64 (wrap64 (1 + (wrap64 (Int.tmod ((rd_T47 l0 x16_1).f1) 3)))), .int .i64 (Int.tmod (wrap64 (((rd_T47 l0 x16_1).f2))) a1), .int .i64 0, .int .i64 0, .int .i64 0]) ?_ 3 _ rfl; (with_reducible repeat (first | refine blk_drewN ?_ _ | refine blk_drew ?_ | refine blk_alloc ?_ _)); refine blk_put (cs := #[.int .i64 (wrap64 (x8_1 + (wrap64 (Int.tmod ((rd_T47 l0 x16_1).f0) 6)))), .int .i64 (wrap64 (1 + (wrap64 (Int.tmod ((rd_T47 l0 x16_1).f1) 3)))), .int .i64 0, .int .i64 0, .int .i64 0, .int .i64 0]) ?_ 2 _ rfl; (with_reducible repeat (first | refine blk_drewN ?_ _ | refine blk_drew ?_ | refine blk_alloc ?_ _)); refine blk_put (cs := #[.int .i64 (wrap64 (x8_1 + (wrap64 (Int.tmod ((rd_T47 l0 x16_1).f0) 6)))), .int .i64 0, .int .i64 0, .int .i64 0, .int .i64 0, .int .i64 0]) ?_ 1 _ rfl; (with_reducible repeat (first | refine blk_drewN ?_ _ | refine blk_drew ?_ | refine blk_alloc ?_ _)); refine blk_put (cs := #[.int .i64 0, .int .i64 0, .int .i64 0, .int .i64 0, .int .i64 0, .int .i64 0]) ?_ 0 _ rfl; (with_reducible repeat (first | refine blk_drewN ?_ _ | refine blk_drew ?_ | refine blk_alloc ?_ _)); exact BK109.out⟩, ⟨by repeat (first | (with_reducible first | exact HB.out | apply below_alloc | apply pw_below_drewN | apply below_drew1 | refine below_set ?_ GE108.out | refine below_set ?_ GE109.out) | exact HB.out)⟩⟩
                            case rest =>
                              clear HC20
                              try clear c1
                              try clear p1
                              try clear q1
                              try clear hx1
                              try clear c2
                              try clear p2
                              try clear c5
                              try clear c5b0
                              try clear c6
                              try clear c6b0
                              try clear p6
                              try clear c7
                              try clear c7b0
                              try clear c10
                              try clear p10
                              try clear q10
                              try clear hx10
                              try clear c11
                              try clear c11b0
                              try clear c14
                              try clear c15
                              try clear c15b0
                              try clear c15b1
                              try clear c16
                              try clear c16b0
                              try clear c16b1
                              try clear c19
                              try clear c19b0
                              try clear c23
                              try clear c25
                              try clear c25b0
                              try clear c25b1
                              try clear c26
                              try clear hcz10_0
                              try clear hcz10_1
                              try clear hcz10_2
                              try clear hcz10_3
                              try clear hcz10_4
                              try clear hcz18_0
                              try clear hcz18_1
                              try clear hcz18_2
                              try clear hcz18_3
                              try clear hcz18_4
                              try clear hcz21_0
                              try clear hcz21_1
                              try clear hcz21_2
                              try clear hcz21_3
                              try clear hcz21_4
                              try clear hcz24_0
                              try clear hcz24_1
                              try clear hcz24_2
                              try clear hcz24_3
                              try clear hcz24_4
                              try clear hcz24_5
                              try clear hcz27_0
                              try clear hcz27_1
                              try clear hcz27_2
                              try clear hcz27_3
                              try clear hcz27_4
                              try clear hcz28_0
                              try clear hcz28_1
                              try clear hcz28_2
                              try clear hcz28_3
                              try clear hcz28_4
                              try clear hcz28_5
                              try clear hfz10_0
                              try clear hfz10_1
                              try clear hfz10_2
                              try clear hfz10_3
                              try clear hfz10_4
                              try clear hfz18_0
                              try clear hfz18_1
                              try clear hfz18_2
                              try clear hfz18_3
                              try clear hfz18_4
                              try clear hfz21_0
                              try clear hfz21_1
                              try clear hfz21_2
                              try clear hfz21_3
                              try clear hfz21_4
                              try clear hfz24_0
                              try clear hfz24_1
                              try clear hfz24_2
                              try clear hfz24_3
                              try clear hfz24_4
                              try clear hfz24_5
                              try clear hfz27_0
                              try clear hfz27_1
                              try clear hfz27_2
                              try clear hfz27_3
                              try clear hfz27_4
                              try clear hfz28_0
                              try clear hfz28_1
                              try clear hfz28_2
                              try clear hfz28_3
                              try clear hfz28_4
                              try clear hfz28_5
                              try clear hx107_0
                              try clear hx107_1
                              try clear hx107_2
                              try clear hx107_3
                              try clear hx107_4
                              try clear p1
                              try clear p10
                              try clear p107
                              try clear p2
                              try clear p6
                              try clear q1
                              try clear q10
                              try clear q107
                              obtain ⟨kq, x110005_19, HA, HJ19, HO_7, BK108, BK109, HB⟩ := hcut
                              cases kq with
                              | zero => exact absurd HA.out (by simp [insolvencylaw0_Rows.j3])
                              | succ kj19 =>
                                have H := HA.out
                                clear HA
                                simp only [insolvencylaw0_Rows.j3] at H
                                by_cases c29 : x7_1.length < 2932031007402
                                · rw [if_pos c29] at H
                                  have LMc29 := Aside0.mk c29
                                  clear c29
                                  obtain ⟨y110, hy110⟩ : ∃ y_ : List (S30), y_ = (x7_1 ++ [(⟨(wrap64 (x8_1 + (wrap64 (Int.tmod ((rd_T47 l0 x16_1).f0) 6)))), (wrap64 (1 + (wrap64 (Int.tmod ((rd_T47 l0 x16_1).f1) 3)))), (Int.tmod (wrap64 (((rd_T47 l0 x16_1).f2))) a1), x12_16, (wrap64 (Int.tmod ((rd_T47 l0 x16_1).f4) 40)), x110005_19⟩ : S30)]) := ⟨_, rfl⟩
                                  replace H : (insolvencylaw0_Rows.l0 kj19 a1 a2 y110 (wrap64 (x8_1 + (wrap64 (Int.tmod ((rd_T47 l0 x16_1).f0) 6)))) l0 (l0.length : Int) (wrap64 (x16_1 + 1))) = some r := by first | (rw [hy110]; with_reducible exact H) | (have H2_ := (Option.bind_some _ _).symm.trans H; rw [hy110]; with_reducible exact H2_) | (have H2_ := (Option.bind_some _ _).symm.trans H; with_reducible exact H2_) | with_reducible exact H | (rw [hy110]; exact H) | exact H
                                  have Ny110 := Aside0.mk hy110
                                  clear hy110
                                  have H' := Aside0.mk H
                                  clear H
                                  have hnb30 := NB109_108.out
                                  have hnc30 := NB108_109.out
                                  have hcz31_0 : wc.cell? ⟨gb109, 0, none⟩ = some (.int .i64 (wrap64 (x8_1 + (wrap64 (Int.tmod ((rd_T47 l0 x16_1).f0) 6))))) := (blk_cell BK109.out 0).trans rfl
                                  have hcz31_1 : wc.cell? ⟨gb109, 1, none⟩ = some (.int .i64 (wrap64 (1 + (wrap64 (Int.tmod ((rd_T47 l0 x16_1).f1) 3))))) := (blk_cell BK109.out 1).trans rfl
                                  have hcz31_2 : wc.cell? ⟨gb109, 2, none⟩ = some (.int .i64 (Int.tmod (wrap64 (((rd_T47 l0 x16_1).f2))) a1)) := (blk_cell BK109.out 2).trans rfl
                                  have hcz31_3 : wc.cell? ⟨gb109, 3, none⟩ = some (.int .i64 x12_16) := (blk_cell BK109.out 3).trans rfl
                                  have hcz31_4 : wc.cell? ⟨gb109, 4, none⟩ = some (.int .i64 (wrap64 (Int.tmod ((rd_T47 l0 x16_1).f4) 40))) := (blk_cell BK109.out 4).trans rfl
                                  have hcz31_5 : wc.cell? ⟨gb109, 5, none⟩ = some (.int .i64 x110005_19) := (blk_cell BK109.out 5).trans rfl
                                  have hfz31_0 := blk_frozen BK109.out 0
                                  have hfz31_1 := blk_frozen BK109.out 1
                                  have hfz31_2 := blk_frozen BK109.out 2
                                  have hfz31_3 := blk_frozen BK109.out 3
                                  have hfz31_4 := blk_frozen BK109.out 4
                                  have hfz31_5 := blk_frozen BK109.out 5
                                  go_wp2_with (first | ((with_reducible refine gate_builtin (b := .append) (xs := #[.tmp 72, .tmp 74]) rfl ?_); at_builtin; refine Kd.R_append k30 (w0 := w) w.heap.size rfl (.tmp 72) (.tmp 74) 22 30 (.agg #[(.int .i64 0), (.int .i64 0), (.int .i64 0), (.int .i64 0), (.int .i64 0), (.int .i64 0)]) 48 rfl Try.underlying22 info30 rfl (by decide) (by omega) u7 x7_1 (⟨(wrap64 (x8_1 + (wrap64 (Int.tmod ((rd_T47 l0 x16_1).f0) 6)))), (wrap64 (1 + (wrap64 (Int.tmod ((rd_T47 l0 x16_1).f1) 3)))), (Int.tmod (wrap64 (((rd_T47 l0 x16_1).f2))) a1), x12_16, (wrap64 (Int.tmod ((rd_T47 l0 x16_1).f4) 40)), x110005_19⟩ : S30) [.int .i64 (wrap64 (x8_1 + (wrap64 (Int.tmod ((rd_T47 l0 x16_1).f0) 6)))), .int .i64 (wrap64 (1 + (wrap64 (Int.tmod ((rd_T47 l0 x16_1).f1) 3)))), .int .i64 (Int.tmod (wrap64 (((rd_T47 l0 x16_1).f2))) a1), .int .i64 x12_16, .int .i64 (wrap64 (Int.tmod ((rd_T47 l0 x16_1).f4) 40)), .int .i64 x110005_19] (fun k_ => k_ ≠ gb109) (fun _ => False) rfl rfl ?aP (fun _ hk => hk.elim) ?aF ?aO ?aB ?aS ?aL ?_; (case aP => exact k30_mkM _ _ _ (⟨(wrap64 (x8_1 + (wrap64 (Int.tmod ((rd_T47 l0 x16_1).f0) 6)))), (wrap64 (1 + (wrap64 (Int.tmod ((rd_T47 l0 x16_1).f1) 3)))), (Int.tmod (wrap64 (((rd_T47 l0 x16_1).f2))) a1), x12_16, (wrap64 (Int.tmod ((rd_T47 l0 x16_1).f4) 40)), x110005_19⟩ : S30)); (case aB => exact (by repeat (first | (with_reducible first | exact HB.out | apply below_alloc | apply pw_below_drewN | apply below_drew1 | refine below_set ?_ GE108.out | refine below_set ?_ GE109.out) | exact HB.out))); (case aF => exact (fun k_ hk => Kd.freshB (g := gb109) (o := .cells #[.int .i64 (wrap64 (x8_1 + (wrap64 (Int.tmod ((rd_T47 l0 x16_1).f0) 6)))), .int .i64 (wrap64 (1 + (wrap64 (Int.tmod ((rd_T47 l0 x16_1).f1) 3)))), .int .i64 (Int.tmod (wrap64 (((rd_T47 l0 x16_1).f2))) a1), .int .i64 x12_16, .int .i64 (wrap64 (Int.tmod ((rd_T47 l0 x16_1).f4) 40)), .int .i64 x110005_19] 30 (0, 0)) (by (with_reducible repeat (first | refine blk_drewN ?_ _ | refine blk_drew ?_ | refine blk_alloc ?_ _)); exact BK109.out) k_ hk)); (case aO => exact (by (with_reducible repeat (first | apply Kd.R_alloc | apply Kd.R_drewN | apply Kd.R_drew)); exact HO_7.out)); (case aS => exact (below_size (by repeat (first | (with_reducible first | exact HB.out | apply below_alloc | apply pw_below_drewN | apply below_drew1 | refine below_set ?_ GE108.out | refine below_set ?_ GE109.out) | exact HB.out)))); (case aL => have := LMc29.out; omega); intro v111 w32 ho hb hg hat; rw [← Ny110.out] at ho; have n0_ := Aside0.mk (blk_grown (g := gb108) (o := .cells #[.int .u16 ((rd_T47 l0 x16_1).f0), .int .u16 ((rd_T47 l0 x16_1).f1), .int .u16 ((rd_T47 l0 x16_1).f2), .int .u16 ((rd_T47 l0 x16_1).f3), .int .u16 ((rd_T47 l0 x16_1).f4)] 47 (0, 0)) (by (with_reducible repeat (first | refine blk_drewN ?_ _ | refine blk_drew ?_ | refine blk_alloc ?_ _)); exact BK108.out) hg (Kd.R_ne HO_7.out BK108.out (by decide))); have n1_ := Aside0.mk (blk_grown (g := gb109) (o := .cells #[.int .i64 (wrap64 (x8_1 + (wrap64 (Int.tmod ((rd_T47 l0 x16_1).f0) 6)))), .int .i64 (wrap64 (1 + (wrap64 (Int.tmod ((rd_T47 l0 x16_1).f1) 3)))), .int .i64 (Int.tmod (wrap64 (((rd_T47 l0 x16_1).f2))) a1), .int .i64 x12_16, .int .i64 (wrap64 (Int.tmod ((rd_T47 l0 x16_1).f4) 40)), .int .i64 x110005_19] 30 (0, 0)) (by (with_reducible repeat (first | refine blk_drewN ?_ _ | refine blk_drew ?_ | refine blk_alloc ?_ _)); exact BK109.out) hg (Kd.R_away HO_7.out (fun _ hk => hk))); have n2_ := Aside0.mk (hb); have n3_ := Aside0.mk (ho); clear BK108; clear BK109; clear HB; clear HO_7; have BK108 := n0_; have BK109 := n1_; have HB := n2_; have HO112 := n3_; clear n0_ n1_ n2_ n3_; clear ho hb hg hat))
                                  go_roundg kj19
                                  case measure => have := HK1.out; have := HJ7.out; have := HJ16.out; have := HJ19.out; omega
                                  case rel => exact ⟨(y110), ((wrap64 (x8_1 + (wrap64 (Int.tmod ((rd_T47 l0 x16_1).f0) 6))))), (wrap64 (x16_1 + 1)), (by first | rfl | (simp; done) | (simp [*]; done)), (by first | rfl | (simp; done) | (simp [*]; done)), H', ⟨by have := HK1.out; have := HJ7.out; have := HJ16.out; have := HJ19.out; omega⟩, ⟨by (with_reducible repeat (first | apply Kd.R_alloc | apply Kd.R_drewN | apply Kd.R_drew)); exact Kd.R_mono HO112.out (fun _ hk => trivial)⟩, ⟨by repeat (first | (with_reducible first | exact HB.out | apply below_alloc | apply pw_below_drewN | apply below_drew1 | refine below_set ?_ GE108.out | refine below_set ?_ GE109.out) | exact HB.out)⟩⟩
                                · rw [if_neg c29] at H
                                  exact absurd H (by simp)
            · rw [if_neg c7] at H
              exact absurd H (by simp)
          · rw [if_neg c6] at H
            exact absurd H (by simp)
        · rw [if_neg c5] at H
          have c5b0 : decide (x16_1 < (l0.length : Int)) = false := decide_eq_false c5
          clear c5
          (first | rw [c5b0] | (simp only [i64_w, i32_w]; rw [c5b0]) | skip)
          have H' := Aside0.mk H
          clear H
          go_wp2
          go_meet
          case rel => exact ⟨_, (x7_1), H', ⟨by have := HK1.out; first | omega | exact Nat.le_refl _⟩, ⟨by (with_reducible repeat (first | apply Kd.R_alloc | apply Kd.R_drewN | apply Kd.R_drew)); exact HO_7.out⟩, ⟨by repeat (first | (with_reducible first | exact HB.out | apply below_alloc | apply pw_below_drewN | apply below_drew1) | exact HB.out)⟩⟩
  case rest =>
    clear HC4
    try clear c1
    try clear p1
    try clear q1
    try clear hx1
    try clear c2
    try clear p2
    try clear c3
    try clear c5
    try clear c5b0
    try clear c6
    try clear c6b0
    try clear p6
    try clear c7
    try clear c7b0
    try clear c10
    try clear p10
    try clear q10
    try clear hx10
    try clear c11
    try clear c11b0
    try clear c14
    try clear c15
    try clear c15b0
    try clear c15b1
    try clear c16
    try clear c16b0
    try clear c16b1
    try clear c19
    try clear c19b0
    try clear c23
    try clear c25
    try clear c25b0
    try clear c25b1
    try clear c26
    try clear c29
    try clear c30
    try clear hcz10_0
    try clear hcz10_1
    try clear hcz10_2
    try clear hcz10_3
    try clear hcz10_4
    try clear hcz18_0
    try clear hcz18_1
    try clear hcz18_2
    try clear hcz18_3
    try clear hcz18_4
    try clear hcz21_0
    try clear hcz21_1
    try clear hcz21_2
    try clear hcz21_3
    try clear hcz21_4
    try clear hcz24_0
    try clear hcz24_1
    try clear hcz24_2
    try clear hcz24_3
    try clear hcz24_4
    try clear hcz24_5
    try clear hcz27_0
    try clear hcz27_1
    try clear hcz27_2
    try clear hcz27_3
    try clear hcz27_4
    try clear hcz28_0
    try clear hcz28_1
    try clear hcz28_2
    try clear hcz28_3
    try clear hcz28_4
    try clear hcz28_5
    try clear hcz31_0
    try clear hcz31_1
    try clear hcz31_2
    try clear hcz31_3
    try clear hcz31_4
    try clear hcz31_5
    try clear hfz10_0
    try clear hfz10_1
    try clear hfz10_2
    try clear hfz10_3
    try clear hfz10_4
    try clear hfz18_0
    try clear hfz18_1
    try clear hfz18_2
    try clear hfz18_3
    try clear hfz18_4
    try clear hfz21_0
    try clear hfz21_1
    try clear hfz21_2
    try clear hfz21_3
    try clear hfz21_4
    try clear hfz24_0
    try clear hfz24_1
    try clear hfz24_2
    try clear hfz24_3
    try clear hfz24_4
    try clear hfz24_5
    try clear hfz27_0
    try clear hfz27_1
    try clear hfz27_2
    try clear hfz27_3
    try clear hfz27_4
    try clear hfz28_0
    try clear hfz28_1
    try clear hfz28_2
    try clear hfz28_3
    try clear hfz28_4
    try clear hfz28_5
    try clear hfz31_0
    try clear hfz31_1
    try clear hfz31_2
    try clear hfz31_3
    try clear hfz31_4
    try clear hfz31_5
    try clear hx107_0
    try clear hx107_1
    try clear hx107_2
    try clear hx107_3
    try clear hx107_4
    try clear p1
    try clear p10
    try clear p107
    try clear p2
    try clear p6
    try clear q1
    try clear q10
    try clear q107
    obtain ⟨kq, x7_3, HA, HJ3, HO_7, HB⟩ := hcut
    cases kq with
    | zero => exact absurd HA.out (by simp [insolvencylaw0_Rows.j4])
    | succ kj3 =>
      have H := HA.out
      clear HA
      simp only [insolvencylaw0_Rows.j4] at H
      obtain rfl := Option.some.inj H
      go_wp2
      go_ret
      exact ⟨_, by first | rfl | (simp [errW_none, errW_some] <;> rfl) | (simp [*, errW_none, errW_some] <;> rfl), by (with_reducible repeat (first | apply Kd.R_alloc | apply Kd.R_drewN | apply Kd.R_drew)); exact HO_7.out, by repeat (first | (with_reducible first | exact HB.out | apply below_alloc | apply pw_below_drewN | apply below_drew1) | exact HB.out)⟩

end Go.Proofs.Ythljfcojmheopaa.PAll
