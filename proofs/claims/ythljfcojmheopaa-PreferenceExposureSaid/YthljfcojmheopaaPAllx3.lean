-- PRINTED by a session's own changed print
import Derived.Test.YthljfcojmheopaaPAllx0
namespace Go.Proofs.Ythljfcojmheopaa.PAll
open Go.RowKit Go.Proofs.YthljfcojmheopaaW.PrintWords Go.Proofs.YthljfcojmheopaaW.PrintLast Go.Proofs.YthljfcojmheopaaW.PrintMore
attribute [local go_sem] max2_int min2_int max_two min_two max_three min_three max_four min_four   -- for this text's walks alone
set_option linter.unusedVariables false
set_option linter.unusedSimpArgs false

/-! ### insolvencyref25_Exposure: function 12 -/
mutual
def insolvencyref25_Exposure.l0 : Nat → List (S30) → Int → Int → Int → Int → Int → Int → Option (Int)
  | 0, _, _, _, _, _, _, _ => none
  | k + 1, x0, x1, x2, x3, x4, x11, x12 => if x12 < (x0.length : Int) then (if 0 ≤ x12 then (if ((rd_T30 x0 x12).f0) < x3 then (insolvencyref25_Exposure.j1 k x0 x1 x2 x3 x4 x11 x12 true ((rd_T30 x0 x12).f0) ((rd_T30 x0 x12).f1) ((rd_T30 x0 x12).f2) ((rd_T30 x0 x12).f3) ((rd_T30 x0 x12).f4) ((rd_T30 x0 x12).f5)) else (if ((rd_T30 x0 x12).f0) > x4 then (insolvencyref25_Exposure.j1 k x0 x1 x2 x3 x4 x11 x12 true ((rd_T30 x0 x12).f0) ((rd_T30 x0 x12).f1) ((rd_T30 x0 x12).f2) ((rd_T30 x0 x12).f3) ((rd_T30 x0 x12).f4) ((rd_T30 x0 x12).f5)) else (insolvencyref25_Exposure.j1 k x0 x1 x2 x3 x4 x11 x12 (x1 == x2) ((rd_T30 x0 x12).f0) ((rd_T30 x0 x12).f1) ((rd_T30 x0 x12).f2) ((rd_T30 x0 x12).f3) ((rd_T30 x0 x12).f4) ((rd_T30 x0 x12).f5)))) else (none)) else (some x11)
def insolvencyref25_Exposure.j1 : Nat → List (S30) → Int → Int → Int → Int → Int → Int → Bool → Int → Int → Int → Int → Int → Int → Option (Int)
  | 0, _, _, _, _, _, _, _, _, _, _, _, _, _, _ => none
  | k + 1, x0, x1, x2, x3, x4, x11, x12, x38, x115000, x115001, x115002, x115003, x115004, x115005 => if x38 = true then (insolvencyref25_Exposure.l0 k x0 x1 x2 x3 x4 x11 (wrap64 (x12 + 1))) else (if x115001 = 1 then (if x115002 = x1 then (insolvencyref25_Exposure.j2 k x0 x1 x2 x3 x4 x11 x12 (x115003 == x2) x115000 x115001 x115002 x115003 x115004 x115005) else (insolvencyref25_Exposure.j2 k x0 x1 x2 x3 x4 x11 x12 false x115000 x115001 x115002 x115003 x115004 x115005)) else (insolvencyref25_Exposure.j2 k x0 x1 x2 x3 x4 x11 x12 false x115000 x115001 x115002 x115003 x115004 x115005))
def insolvencyref25_Exposure.j2 : Nat → List (S30) → Int → Int → Int → Int → Int → Int → Bool → Int → Int → Int → Int → Int → Int → Option (Int)
  | 0, _, _, _, _, _, _, _, _, _, _, _, _, _, _ => none
  | k + 1, x0, x1, x2, x3, x4, x11, x12, x53, x115000, x115001, x115002, x115003, x115004, x115005 => if x53 = true then (if x115001 = 1 then (if x115002 = x2 then (if x115003 = x1 then (insolvencyref25_Exposure.l0 k x0 x1 x2 x3 x4 (mx 0 (wrap64 ((wrap64 (x11 + x115004)) - x115004))) (wrap64 (x12 + 1))) else (insolvencyref25_Exposure.l0 k x0 x1 x2 x3 x4 (wrap64 (x11 + x115004)) (wrap64 (x12 + 1)))) else (insolvencyref25_Exposure.l0 k x0 x1 x2 x3 x4 (wrap64 (x11 + x115004)) (wrap64 (x12 + 1)))) else (if x115001 = 2 then (if x115002 = x2 then (if x115003 = x1 then (insolvencyref25_Exposure.l0 k x0 x1 x2 x3 x4 (mx 0 (wrap64 ((wrap64 (x11 + x115004)) - x115004))) (wrap64 (x12 + 1))) else (insolvencyref25_Exposure.l0 k x0 x1 x2 x3 x4 (wrap64 (x11 + x115004)) (wrap64 (x12 + 1)))) else (insolvencyref25_Exposure.l0 k x0 x1 x2 x3 x4 (wrap64 (x11 + x115004)) (wrap64 (x12 + 1)))) else (insolvencyref25_Exposure.l0 k x0 x1 x2 x3 x4 (wrap64 (x11 + x115004)) (wrap64 (x12 + 1))))) else (if x115001 = 1 then (if x115002 = x2 then (if x115003 = x1 then (insolvencyref25_Exposure.l0 k x0 x1 x2 x3 x4 (mx 0 (wrap64 (x11 - x115004))) (wrap64 (x12 + 1))) else (insolvencyref25_Exposure.l0 k x0 x1 x2 x3 x4 x11 (wrap64 (x12 + 1)))) else (insolvencyref25_Exposure.l0 k x0 x1 x2 x3 x4 x11 (wrap64 (x12 + 1)))) else (if x115001 = 2 then (if x115002 = x2 then (if x115003 = x1 then (insolvencyref25_Exposure.l0 k x0 x1 x2 x3 x4 (mx 0 (wrap64 (x11 - x115004))) (wrap64 (x12 + 1))) else (insolvencyref25_Exposure.l0 k x0 x1 x2 x3 x4 x11 (wrap64 (x12 + 1)))) else (insolvencyref25_Exposure.l0 k x0 x1 x2 x3 x4 x11 (wrap64 (x12 + 1)))) else (insolvencyref25_Exposure.l0 k x0 x1 x2 x3 x4 x11 (wrap64 (x12 + 1)))))
end
def insolvencyref25_Exposure.f (k : Nat) (l0 : List (S30)) (a1 : Int) (a2 : Int) (a3 : Int) (a4 : Int) : Option (Int) := insolvencyref25_Exposure.l0 k l0 a1 a2 a3 a4 0 0
theorem insolvencyref25_Exposure.mono_l : ∀ k, (∀ y0 y1 y2 y3 y4 y5 y6, LeO (insolvencyref25_Exposure.l0 k y0 y1 y2 y3 y4 y5 y6) (insolvencyref25_Exposure.l0 (k + 1) y0 y1 y2 y3 y4 y5 y6)) ∧ (∀ y0 y1 y2 y3 y4 y5 y6 y7 y8 y9 y10 y11 y12 y13, LeO (insolvencyref25_Exposure.j1 k y0 y1 y2 y3 y4 y5 y6 y7 y8 y9 y10 y11 y12 y13) (insolvencyref25_Exposure.j1 (k + 1) y0 y1 y2 y3 y4 y5 y6 y7 y8 y9 y10 y11 y12 y13)) ∧ (∀ y0 y1 y2 y3 y4 y5 y6 y7 y8 y9 y10 y11 y12 y13, LeO (insolvencyref25_Exposure.j2 k y0 y1 y2 y3 y4 y5 y6 y7 y8 y9 y10 y11 y12 y13) (insolvencyref25_Exposure.j2 (k + 1) y0 y1 y2 y3 y4 y5 y6 y7 y8 y9 y10 y11 y12 y13))
  | 0 => ⟨fun _ _ _ _ _ _ _ r h => by simp [insolvencyref25_Exposure.l0] at h, fun _ _ _ _ _ _ _ _ _ _ _ _ _ _ r h => by simp [insolvencyref25_Exposure.j1] at h, fun _ _ _ _ _ _ _ _ _ _ _ _ _ _ r h => by simp [insolvencyref25_Exposure.j2] at h⟩
  | k + 1 => by
    obtain ⟨ih0, ih1, ih2⟩ := insolvencyref25_Exposure.mono_l k
    refine ⟨?_, ?_, ?_⟩
    · intro y0 y1 y2 y3 y4 y5 y6
      unfold insolvencyref25_Exposure.l0
      repeat' first
      | (with_reducible exact ih0 _ _ _ _ _ _ _)
      | (with_reducible exact ih1 _ _ _ _ _ _ _ _ _ _ _ _ _ _)
      | (with_reducible exact ih2 _ _ _ _ _ _ _ _ _ _ _ _ _ _)
      | (with_reducible exact LeO.refl _)
      | (with_reducible exact LeO.none _)
      | (with_reducible refine LeO.ite ?_ ?_)
      | (with_reducible refine LeO.bind ?_ (fun _ => ?_))
      | exact ih0 _ _ _ _ _ _ _
      | exact ih1 _ _ _ _ _ _ _ _ _ _ _ _ _ _
      | exact ih2 _ _ _ _ _ _ _ _ _ _ _ _ _ _
      | exact LeO.none _
      | refine LeO.ite ?_ ?_
      | refine LeO.bind ?_ (fun _ => ?_)
    · intro y0 y1 y2 y3 y4 y5 y6 y7 y8 y9 y10 y11 y12 y13
      unfold insolvencyref25_Exposure.j1
      repeat' first
      | (with_reducible exact ih0 _ _ _ _ _ _ _)
      | (with_reducible exact ih1 _ _ _ _ _ _ _ _ _ _ _ _ _ _)
      | (with_reducible exact ih2 _ _ _ _ _ _ _ _ _ _ _ _ _ _)
      | (with_reducible exact LeO.refl _)
      | (with_reducible exact LeO.none _)
      | (with_reducible refine LeO.ite ?_ ?_)
      | (with_reducible refine LeO.bind ?_ (fun _ => ?_))
      | exact ih0 _ _ _ _ _ _ _
      | exact ih1 _ _ _ _ _ _ _ _ _ _ _ _ _ _
      | exact ih2 _ _ _ _ _ _ _ _ _ _ _ _ _ _
      | exact LeO.none _
      | refine LeO.ite ?_ ?_
      | refine LeO.bind ?_ (fun _ => ?_)
    · intro y0 y1 y2 y3 y4 y5 y6 y7 y8 y9 y10 y11 y12 y13
      unfold insolvencyref25_Exposure.j2
      repeat' first
      | (with_reducible exact ih0 _ _ _ _ _ _ _)
      | (with_reducible exact ih1 _ _ _ _ _ _ _ _ _ _ _ _ _ _)
      | (with_reducible exact ih2 _ _ _ _ _ _ _ _ _ _ _ _ _ _)
      | (with_reducible exact LeO.refl _)
      | (with_reducible exact LeO.none _)
      | (with_reducible refine LeO.ite ?_ ?_)
      | (with_reducible refine LeO.bind ?_ (fun _ => ?_))
      | exact ih0 _ _ _ _ _ _ _
      | exact ih1 _ _ _ _ _ _ _ _ _ _ _ _ _ _
      | exact ih2 _ _ _ _ _ _ _ _ _ _ _ _ _ _
      | exact LeO.none _
      | refine LeO.ite ?_ ?_
      | refine LeO.bind ?_ (fun _ => ?_)
theorem insolvencyref25_Exposure.mono : ∀ a0 a1 a2 a3 a4 k, LeO (insolvencyref25_Exposure.f k a0 a1 a2 a3 a4) (insolvencyref25_Exposure.f (k + 1) a0 a1 a2 a3 a4) := by
  intro a0 a1 a2 a3 a4 k
  obtain ⟨ih0, ih1, ih2⟩ := insolvencyref25_Exposure.mono_l k
  unfold insolvencyref25_Exposure.f
  repeat' first
      | (with_reducible exact ih0 _ _ _ _ _ _ _)
      | (with_reducible exact ih1 _ _ _ _ _ _ _ _ _ _ _ _ _ _)
      | (with_reducible exact ih2 _ _ _ _ _ _ _ _ _ _ _ _ _ _)
      | (with_reducible exact LeO.refl _)
      | (with_reducible exact LeO.none _)
      | (with_reducible refine LeO.ite ?_ ?_)
      | (with_reducible refine LeO.bind ?_ (fun _ => ?_))
      | exact ih0 _ _ _ _ _ _ _
      | exact ih1 _ _ _ _ _ _ _ _ _ _ _ _ _ _
      | exact ih2 _ _ _ _ _ _ _ _ _ _ _ _ _ _
      | exact LeO.none _
      | refine LeO.ite ?_ ?_
      | refine LeO.bind ?_ (fun _ => ?_)
set_option maxHeartbeats 8000000 in
set_option maxRecDepth 100000 in
theorem insolvencyref25_Exposure.calls (k : Nat) (A0 : Option Addr) (c0 : Nat) (l0 : List (S30)) (a1 : Int) (a2 : Int) (a3 : Int) (a4 : Int) (r : Int) (w : World) (hr0 : Kd.C k30 w A0 l0.length l0) (hc0 : l0.length ≤ c0) (h : insolvencyref25_Exposure.f k l0 a1 a2 a3 a4 = some r) :
    Calls Try.prog 12 #[.slice A0 l0.length c0, .int .i64 a1, .int .i64 a2, .int .i64 a3, .int .i64 a4] w fun e w' => e = .returned (.int .i64 r) ∧ Below w.heap.size w w' := by
  have hu30 := Try.underlying30
  have HR0 := Aside0.mk hr0
  have HC0 := Aside0.mk hc0
  clear hr0 hc0
  have HB := Aside0.mk (Below.refl w.heap.size w)
  have H : (insolvencyref25_Exposure.l0 k l0 a1 a2 a3 a4 0 0) = some r := h
  clear h
  have H' := Aside0.mk H
  clear H
  go_enter Try.func12, Try.ntmps12
  go_wp2
  go_loopg [11, 12] k (fun kq v11 v12 w' => ∃ (x11_1 : Int) (x12_1 : Int), v11 = .int .i64 x11_1 ∧ v12 = .int .i64 x12_1 ∧ Aside0 (insolvencyref25_Exposure.l0 kq l0 a1 a2 a3 a4 x11_1 x12_1 = some r) ∧ Aside0 (kq ≤ k) ∧ Aside0 (Below w.heap.size w w'))
  case atStart => exact ⟨(0), (0), (by first | rfl | (simp; done) | (simp [*]; done)), (by first | rfl | (simp; done) | (simp [*]; done)), H', ⟨Nat.le_refl _⟩, ⟨by repeat (first | (with_reducible first | exact HB.out | apply below_alloc | apply pw_below_drewN | apply below_drew1) | exact HB.out)⟩⟩
  case round =>
    clear H'
    try clear c1
    try clear p2
    obtain ⟨x11_1, x12_1, rfl, rfl, HA, HK1, HB⟩ := hrel
    cases gk with
    | zero => exact absurd HA.out (by simp [insolvencyref25_Exposure.l0])
    | succ k1 =>
      have H := HA.out
      clear HA
      simp only [insolvencyref25_Exposure.l0] at H
      by_cases c6 : x12_1 < (l0.length : Int)
      · rw [if_pos c6] at H
        have c6b0 : decide (x12_1 < (l0.length : Int)) = true := decide_eq_true c6
        clear c6
        by_cases c7 : 0 ≤ x12_1
        · rw [if_pos c7] at H
          have c7b0 : decide (0 ≤ x12_1) = true := decide_eq_true c7
          clear c7
          have HC8 := Aside0.mk H
          clear H
          have p113 : 0 ≤ (x12_1 : Int) := of_decide_eq_true (by first | (with_reducible assumption) | assumption)
          have q113 : x12_1 < (l0.length : Int) := of_decide_eq_true (by first | (with_reducible assumption) | assumption)
          obtain ⟨ad113, e113, hx113_0, hx113_1, hx113_2, hx113_3, hx113_4, hx113_5⟩ := at_T30 HR0.out x12_1 p113 q113
          cases e113
          replace hx113_0 := (HB.out.cell (World.block_lt_of_cell? w _ hx113_0)).trans hx113_0
          replace hx113_1 := (HB.out.cell (World.block_lt_of_cell? w _ hx113_1)).trans hx113_1
          replace hx113_2 := (HB.out.cell (World.block_lt_of_cell? w _ hx113_2)).trans hx113_2
          replace hx113_3 := (HB.out.cell (World.block_lt_of_cell? w _ hx113_3)).trans hx113_3
          replace hx113_4 := (HB.out.cell (World.block_lt_of_cell? w _ hx113_4)).trans hx113_4
          replace hx113_5 := (HB.out.cell (World.block_lt_of_cell? w _ hx113_5)).trans hx113_5
          replace p113 := eq_true p113
          replace q113 := eq_true q113
          go_upto_region 6 with (first | ((with_reducible refine gate_dst (N := 13) rfl ?_); refine box_event ?hg (N := 13) ?hd (cs := #[.int .i64 0, .int .i64 0, .int .i64 0, .int .i64 0, .int .i64 0, .int .i64 0]) (t := 30) ?hr ?_; (case hd => rfl); (case hg => rfl); (case hr => first | (go_simp; done) | (go_simp; rfl)); intro gb114 hg w9 hbox hb; have n0_ := Aside0.mk (below_step (by repeat (first | (with_reducible first | exact HB.out | apply below_alloc | apply pw_below_drewN | apply below_drew1) | exact HB.out)) hb); have n1_ := Aside0.mk (hbox); have n2_ := Aside0.mk ((by rw [hg]; exact (below_size (by repeat (first | (with_reducible first | exact HB.out | apply below_alloc | apply pw_below_drewN | apply below_drew1) | exact HB.out))) : w.heap.size ≤ gb114)); have n3_ := Aside0.mk ((by rw [hg]; exact (below_size (by repeat (first | (with_reducible first | exact HB.out | apply below_alloc | apply pw_below_drewN | apply below_drew1) | exact HB.out))) : w.heap.size ≤ gb114)); clear HB; have HB := n0_; have BK114 := n1_; have GW114 := n2_; have GE114 := n3_; clear n0_ n1_ n2_ n3_; clear hb hbox hg; have hcz10_0 : w9.cell? ⟨gb114, 0, none⟩ = some (.int .i64 0) := (blk_cell BK114.out 0).trans rfl; have hcz10_1 : w9.cell? ⟨gb114, 1, none⟩ = some (.int .i64 0) := (blk_cell BK114.out 1).trans rfl; have hcz10_2 : w9.cell? ⟨gb114, 2, none⟩ = some (.int .i64 0) := (blk_cell BK114.out 2).trans rfl; have hcz10_3 : w9.cell? ⟨gb114, 3, none⟩ = some (.int .i64 0) := (blk_cell BK114.out 3).trans rfl; have hcz10_4 : w9.cell? ⟨gb114, 4, none⟩ = some (.int .i64 0) := (blk_cell BK114.out 4).trans rfl; have hcz10_5 : w9.cell? ⟨gb114, 5, none⟩ = some (.int .i64 0) := (blk_cell BK114.out 5).trans rfl; have hfz10_0 := blk_frozen BK114.out 0; have hfz10_1 := blk_frozen BK114.out 1; have hfz10_2 := blk_frozen BK114.out 2; have hfz10_3 := blk_frozen BK114.out 3; have hfz10_4 := blk_frozen BK114.out 4; have hfz10_5 := blk_frozen BK114.out 5))
          (try simp only [Act.put, List.setIfInBounds_toArray, List.set_cons_zero, List.set_cons_succ])
          go_cut [38] (fun v38 wc => ∃ (kq : Nat) (x38_7 : Bool), v38 = .bool x38_7 ∧ Aside0 (insolvencyref25_Exposure.j1 kq l0 a1 a2 a3 a4 x11_1 x12_1 x38_7 ((rd_T30 l0 x12_1).f0) ((rd_T30 l0 x12_1).f1) ((rd_T30 l0 x12_1).f2) ((rd_T30 l0 x12_1).f3) ((rd_T30 l0 x12_1).f4) ((rd_T30 l0 x12_1).f5) = some r) ∧ Aside0 (kq ≤ k1) ∧ Aside0 (wc.heap[gb114]? = some (.cells #[.int .i64 ((rd_T30 l0 x12_1).f0), .int .i64 ((rd_T30 l0 x12_1).f1), .int .i64 ((rd_T30 l0 x12_1).f2), .int .i64 ((rd_T30 l0 x12_1).f3), .int .i64 ((rd_T30 l0 x12_1).f4), .int .i64 ((rd_T30 l0 x12_1).f5)] 30 (0, 0))) ∧ Aside0 (Below w.heap.size w wc))
          case first =>
            have H := HC8.out
            clear HC8
            by_cases c11 : ((rd_T30 l0 x12_1).f0) < a3
            · rw [if_pos c11] at H
              have c11b0 : decide (((rd_T30 l0 x12_1).f0) < a3) = true := decide_eq_true c11
              clear c11
              (first | rw [c11b0] | (simp only [i64_w, i32_w]; rw [c11b0]) | skip)
              have H' := Aside0.mk H
              clear H
              have hcz12_0 : w9.cell? ⟨gb114, 0, none⟩ = some (.int .i64 0) := (blk_cell BK114.out 0).trans rfl
              have hcz12_1 : w9.cell? ⟨gb114, 1, none⟩ = some (.int .i64 0) := (blk_cell BK114.out 1).trans rfl
              have hcz12_2 : w9.cell? ⟨gb114, 2, none⟩ = some (.int .i64 0) := (blk_cell BK114.out 2).trans rfl
              have hcz12_3 : w9.cell? ⟨gb114, 3, none⟩ = some (.int .i64 0) := (blk_cell BK114.out 3).trans rfl
              have hcz12_4 : w9.cell? ⟨gb114, 4, none⟩ = some (.int .i64 0) := (blk_cell BK114.out 4).trans rfl
              have hcz12_5 : w9.cell? ⟨gb114, 5, none⟩ = some (.int .i64 0) := (blk_cell BK114.out 5).trans rfl
              have hfz12_0 := blk_frozen BK114.out 0
              have hfz12_1 := blk_frozen BK114.out 1
              have hfz12_2 := blk_frozen BK114.out 2
              have hfz12_3 := blk_frozen BK114.out 3
              have hfz12_4 := blk_frozen BK114.out 4
              have hfz12_5 := blk_frozen BK114.out 5
              go_wp2
              go_meet
              case rel => exact ⟨_, (true), (by first | rfl | (simp; done) | (simp [*]; done)), H', ⟨by have := HK1.out; first | omega | exact Nat.le_refl _⟩, ⟨by (with_reducible repeat (first | refine blk_drewN ?_ _ | refine blk_drew ?_ | refine blk_alloc ?_ _)); refine blk_put (cs := #[.int .i64 ((rd_T30 l0 x12_1).f0), .int .i64 ((rd_T30 l0 x12_1).f1), .int .i64 ((rd_T30 l0 x12_1).f2), .int .i64 ((rd_T30 l0 x12_1).f3), .int .i64 ((rd_T30 l0 x12_1).f4), .int .i64 0]) ?_ 5 _ rfl; (with_reducible repeat (first | refine blk_drewN ?_ _ | refine blk_drew ?_ | refine blk_alloc ?_ _)); refine blk_put (cs := #[.int .i64 ((rd_T30 l0 x12_1).f0), .int .i64 ((rd_T30 l0 x12_1).f1), .int .i64 ((rd_T30 l0 x12_1).f2), .int .i64 ((rd_T30 l0 x12_1).f3), .int .i64 0, .int .i64 0]) ?_ 4 _ rfl; (with_reducible repeat (first | refine blk_drewN ?_ _ | refine blk_drew ?_ | refine blk_alloc ?_ _)); refine blk_put (cs := #[.int .i64 ((rd_T30 l0 x12_1).f0), .int .i64 ((rd_T30 l0 x12_1).f1), .int .i64 ((rd_T30 l0 x12_1).f2), .int .i64 0, .int .i64 0, .int .i64 0]) ?_ 3 _ rfl; (with_reducible repeat (first | refine blk_drewN ?_ _ | refine blk_drew ?_ | refine blk_alloc ?_ _)); refine blk_put (cs := #[.int .i64 ((rd_T30 l0 x12_1).f0), .int .i64 ((rd_T30 l0 x12_1).f1), .int .i64 0, .int .i64 0, .int .i64 0, .int .i64 0]) ?_ 2 _ rfl; (with_reducible repeat (first | refine blk_drewN ?_ _ | refine blk_drew ?_ | refine blk_alloc ?_ _)); refine blk_put (cs := #[.int .i64 ((rd_T30 l0 x12_1).f0), .int .i64 0, .int .i64 0, .int .i64 0, .int .i64 0, .int .i64 0]) ?_ 1 _ rfl; (with_reducible repeat (first | refine blk_drewN ?_ _ | refine blk_drew ?_ | refine blk_alloc ?_ _)); refine blk_put (cs := #[.int .i64 0, .int .i64 0, .int .i64 0, .int .i64 0, .int .i64 0, .int .i64 0]) ?_ 0 _ rfl; (with_reducible repeat (first | refine blk_drewN ?_ _ | refine blk_drew ?_ | refine blk_alloc ?_ _)); exact BK114.out⟩, ⟨by repeat (first | (with_reducible first | exact HB.out | apply below_alloc | apply pw_below_drewN | apply below_drew1 | refine below_set ?_ GE114.out) | exact HB.out)⟩⟩
            · rw [if_neg c11] at H
              have c11b0 : decide (((rd_T30 l0 x12_1).f0) < a3) = false := decide_eq_false c11
              clear c11
              (first | rw [c11b0] | (simp only [i64_w, i32_w]; rw [c11b0]) | skip)
              by_cases c13 : ((rd_T30 l0 x12_1).f0) > a4
              · rw [if_pos c13] at H
                have c13b0 : decide (a4 < ((rd_T30 l0 x12_1).f0)) = true := decide_eq_true c13
                clear c13
                have H' := Aside0.mk H
                clear H
                have hcz14_0 : w9.cell? ⟨gb114, 0, none⟩ = some (.int .i64 0) := (blk_cell BK114.out 0).trans rfl
                have hcz14_1 : w9.cell? ⟨gb114, 1, none⟩ = some (.int .i64 0) := (blk_cell BK114.out 1).trans rfl
                have hcz14_2 : w9.cell? ⟨gb114, 2, none⟩ = some (.int .i64 0) := (blk_cell BK114.out 2).trans rfl
                have hcz14_3 : w9.cell? ⟨gb114, 3, none⟩ = some (.int .i64 0) := (blk_cell BK114.out 3).trans rfl
                have hcz14_4 : w9.cell? ⟨gb114, 4, none⟩ = some (.int .i64 0) := (blk_cell BK114.out 4).trans rfl
                have hcz14_5 : w9.cell? ⟨gb114, 5, none⟩ = some (.int .i64 0) := (blk_cell BK114.out 5).trans rfl
                have hfz14_0 := blk_frozen BK114.out 0
                have hfz14_1 := blk_frozen BK114.out 1
                have hfz14_2 := blk_frozen BK114.out 2
                have hfz14_3 := blk_frozen BK114.out 3
                have hfz14_4 := blk_frozen BK114.out 4
                have hfz14_5 := blk_frozen BK114.out 5
                go_wp2
                go_meet
                case rel => exact ⟨_, (true), (by first | rfl | (simp; done) | (simp [*]; done)), H', ⟨by have := HK1.out; first | omega | exact Nat.le_refl _⟩, ⟨by (with_reducible repeat (first | refine blk_drewN ?_ _ | refine blk_drew ?_ | refine blk_alloc ?_ _)); refine blk_put (cs := #[.int .i64 ((rd_T30 l0 x12_1).f0), .int .i64 ((rd_T30 l0 x12_1).f1), .int .i64 ((rd_T30 l0 x12_1).f2), .int .i64 ((rd_T30 l0 x12_1).f3), .int .i64 ((rd_T30 l0 x12_1).f4), .int .i64 0]) ?_ 5 _ rfl; (with_reducible repeat (first | refine blk_drewN ?_ _ | refine blk_drew ?_ | refine blk_alloc ?_ _)); refine blk_put (cs := #[.int .i64 ((rd_T30 l0 x12_1).f0), .int .i64 ((rd_T30 l0 x12_1).f1), .int .i64 ((rd_T30 l0 x12_1).f2), .int .i64 ((rd_T30 l0 x12_1).f3), .int .i64 0, .int .i64 0]) ?_ 4 _ rfl; (with_reducible repeat (first | refine blk_drewN ?_ _ | refine blk_drew ?_ | refine blk_alloc ?_ _)); refine blk_put (cs := #[.int .i64 ((rd_T30 l0 x12_1).f0), .int .i64 ((rd_T30 l0 x12_1).f1), .int .i64 ((rd_T30 l0 x12_1).f2), .int .i64 0, .int .i64 0, .int .i64 0]) ?_ 3 _ rfl; (with_reducible repeat (first | refine blk_drewN ?_ _ | refine blk_drew ?_ | refine blk_alloc ?_ _)); refine blk_put (cs := #[.int .i64 ((rd_T30 l0 x12_1).f0), .int .i64 ((rd_T30 l0 x12_1).f1), .int .i64 0, .int .i64 0, .int .i64 0, .int .i64 0]) ?_ 2 _ rfl; (with_reducible repeat (first | refine blk_drewN ?_ _ | refine blk_drew ?_ | refine blk_alloc ?_ _)); refine blk_put (cs := #[.int .i64 ((rd_T30 l0 x12_1).f0), .int .i64 0, .int .i64 0, .int .i64 0, .int .i64 0, .int .i64 0]) ?_ 1 _ rfl; (with_reducible repeat (first | refine blk_drewN ?_ _ | refine blk_drew ?_ | refine blk_alloc ?_ _)); refine blk_put (cs := #[.int .i64 0, .int .i64 0, .int .i64 0, .int .i64 0, .int .i64 0, .int .i64 0]) ?_ 0 _ rfl; (with_reducible repeat (first | refine blk_drewN ?_ _ | refine blk_drew ?_ | refine blk_alloc ?_ _)); exact BK114.out⟩, ⟨by repeat (first | (with_reducible first | exact HB.out | apply below_alloc | apply pw_below_drewN | apply below_drew1 | refine below_set ?_ GE114.out) | exact HB.out)⟩⟩
              · rw [if_neg c13] at H
                have c13b0 : decide (a4 < ((rd_T30 l0 x12_1).f0)) = false := decide_eq_false c13
                clear c13
                have H' := Aside0.mk H
                clear H
                have hcz15_0 : w9.cell? ⟨gb114, 0, none⟩ = some (.int .i64 0) := (blk_cell BK114.out 0).trans rfl
                have hcz15_1 : w9.cell? ⟨gb114, 1, none⟩ = some (.int .i64 0) := (blk_cell BK114.out 1).trans rfl
                have hcz15_2 : w9.cell? ⟨gb114, 2, none⟩ = some (.int .i64 0) := (blk_cell BK114.out 2).trans rfl
                have hcz15_3 : w9.cell? ⟨gb114, 3, none⟩ = some (.int .i64 0) := (blk_cell BK114.out 3).trans rfl
                have hcz15_4 : w9.cell? ⟨gb114, 4, none⟩ = some (.int .i64 0) := (blk_cell BK114.out 4).trans rfl
                have hcz15_5 : w9.cell? ⟨gb114, 5, none⟩ = some (.int .i64 0) := (blk_cell BK114.out 5).trans rfl
                have hfz15_0 := blk_frozen BK114.out 0
                have hfz15_1 := blk_frozen BK114.out 1
                have hfz15_2 := blk_frozen BK114.out 2
                have hfz15_3 := blk_frozen BK114.out 3
                have hfz15_4 := blk_frozen BK114.out 4
                have hfz15_5 := blk_frozen BK114.out 5
                go_wp2
                go_meet
                case rel => exact ⟨_, ((a1 == a2)), (by first | rfl | (simp; done) | (simp [*]; done)), H', ⟨by have := HK1.out; first | omega | exact Nat.le_refl _⟩, ⟨by (with_reducible repeat (first | refine blk_drewN ?_ _ | refine blk_drew ?_ | refine blk_alloc ?_ _)); refine blk_put (cs := #[.int .i64 ((rd_T30 l0 x12_1).f0), .int .i64 ((rd_T30 l0 x12_1).f1), .int .i64 ((rd_T30 l0 x12_1).f2), .int .i64 ((rd_T30 l0 x12_1).f3), .int .i64 ((rd_T30 l0 x12_1).f4), .int .i64 0]) ?_ 5 _ rfl; (with_reducible repeat (first | refine blk_drewN ?_ _ | refine blk_drew ?_ | refine blk_alloc ?_ _)); refine blk_put (cs := #[.int .i64 ((rd_T30 l0 x12_1).f0), .int .i64 ((rd_T30 l0 x12_1).f1), .int .i64 ((rd_T30 l0 x12_1).f2), .int .i64 ((rd_T30 l0 x12_1).f3), .int .i64 0, .int .i64 0]) ?_ 4 _ rfl; (with_reducible repeat (first | refine blk_drewN ?_ _ | refine blk_drew ?_ | refine blk_alloc ?_ _)); refine blk_put (cs := #[.int .i64 ((rd_T30 l0 x12_1).f0), .int .i64 ((rd_T30 l0 x12_1).f1), .int .i64 ((rd_T30 l0 x12_1).f2), .int .i64 0, .int .i64 0, .int .i64 0]) ?_ 3 _ rfl; (with_reducible repeat (first | refine blk_drewN ?_ _ | refine blk_drew ?_ | refine blk_alloc ?_ _)); refine blk_put (cs := #[.int .i64 ((rd_T30 l0 x12_1).f0), .int .i64 ((rd_T30 l0 x12_1).f1), .int .i64 0, .int .i64 0, .int .i64 0, .int .i64 0]) ?_ 2 _ rfl; (with_reducible repeat (first | refine blk_drewN ?_ _ | refine blk_drew ?_ | refine blk_alloc ?_ _)); refine blk_put (cs := #[.int .i64 ((rd_T30 l0 x12_1).f0), .int .i64 0, .int .i64 0, .int .i64 0, .int .i64 0, .int .i64 0]) ?_ 1 _ rfl; (with_reducible repeat (first | refine blk_drewN ?_ _ | refine blk_drew ?_ | refine blk_alloc ?_ _)); refine blk_put (cs := #[.int .i64 0, .int .i64 0, .int .i64 0, .int .i64 0, .int .i64 0, .int .i64 0]) ?_ 0 _ rfl; (with_reducible repeat (first | refine blk_drewN ?_ _ | refine blk_drew ?_ | refine blk_alloc ?_ _)); exact BK114.out⟩, ⟨by repeat (first | (with_reducible first | exact HB.out | apply below_alloc | apply pw_below_drewN | apply below_drew1 | refine below_set ?_ GE114.out) | exact HB.out)⟩⟩
          case rest =>
            clear HC8
            try clear c1
            try clear p1
            try clear q1
            try clear hx1
            try clear p2
            try clear c6
            try clear c6b0
            try clear c7
            try clear c7b0
            try clear c11
            try clear c11b0
            try clear p11
            try clear q11
            try clear hx11
            try clear c12
            try clear c13
            try clear c13b0
            try clear hcz10_0
            try clear hcz10_1
            try clear hcz10_2
            try clear hcz10_3
            try clear hcz10_4
            try clear hcz10_5
            try clear hcz12_0
            try clear hcz12_1
            try clear hcz12_2
            try clear hcz12_3
            try clear hcz12_4
            try clear hcz12_5
            try clear hcz14_0
            try clear hcz14_1
            try clear hcz14_2
            try clear hcz14_3
            try clear hcz14_4
            try clear hcz14_5
            try clear hcz15_0
            try clear hcz15_1
            try clear hcz15_2
            try clear hcz15_3
            try clear hcz15_4
            try clear hcz15_5
            try clear hfz10_0
            try clear hfz10_1
            try clear hfz10_2
            try clear hfz10_3
            try clear hfz10_4
            try clear hfz10_5
            try clear hfz12_0
            try clear hfz12_1
            try clear hfz12_2
            try clear hfz12_3
            try clear hfz12_4
            try clear hfz12_5
            try clear hfz14_0
            try clear hfz14_1
            try clear hfz14_2
            try clear hfz14_3
            try clear hfz14_4
            try clear hfz14_5
            try clear hfz15_0
            try clear hfz15_1
            try clear hfz15_2
            try clear hfz15_3
            try clear hfz15_4
            try clear hfz15_5
            try clear hx113_0
            try clear hx113_1
            try clear hx113_2
            try clear hx113_3
            try clear hx113_4
            try clear hx113_5
            try clear p113
            try clear p2
            try clear q113
            obtain ⟨kq, x38_7, rfl, HA, HJ7, BK114, HB⟩ := hcut
            cases kq with
            | zero => exact absurd HA.out (by simp [insolvencyref25_Exposure.j1])
            | succ kj7 =>
              have H := HA.out
              clear HA
              simp only [insolvencyref25_Exposure.j1] at H
              by_cases c16 : x38_7 = true
              · subst c16
                have H1 : (insolvencyref25_Exposure.l0 kj7 l0 a1 a2 a3 a4 x11_1 (wrap64 (x12_1 + 1))) = some r := by rw [if_pos rfl] at H; exact H
                clear H
                have H := H1
                clear H1
                have H' := Aside0.mk H
                clear H
                go_wp2
                go_roundg kj7
                case measure => have := HK1.out; have := HJ7.out; omega
                case rel => exact ⟨(x11_1), (wrap64 (x12_1 + 1)), (by first | rfl | (simp; done) | (simp [*]; done)), (by first | rfl | (simp; done) | (simp [*]; done)), H', ⟨by have := HK1.out; have := HJ7.out; omega⟩, ⟨by repeat (first | (with_reducible first | exact HB.out | apply below_alloc | apply pw_below_drewN | apply below_drew1 | refine below_set ?_ GE114.out) | exact HB.out)⟩⟩
              · replace c16 := Bool.eq_false_iff.mpr c16
                subst c16
                have H1 : (if ((rd_T30 l0 x12_1).f1) = 1 then (if ((rd_T30 l0 x12_1).f2) = a1 then (insolvencyref25_Exposure.j2 kj7 l0 a1 a2 a3 a4 x11_1 x12_1 (((rd_T30 l0 x12_1).f3) == a2) ((rd_T30 l0 x12_1).f0) ((rd_T30 l0 x12_1).f1) ((rd_T30 l0 x12_1).f2) ((rd_T30 l0 x12_1).f3) ((rd_T30 l0 x12_1).f4) ((rd_T30 l0 x12_1).f5)) else (insolvencyref25_Exposure.j2 kj7 l0 a1 a2 a3 a4 x11_1 x12_1 false ((rd_T30 l0 x12_1).f0) ((rd_T30 l0 x12_1).f1) ((rd_T30 l0 x12_1).f2) ((rd_T30 l0 x12_1).f3) ((rd_T30 l0 x12_1).f4) ((rd_T30 l0 x12_1).f5))) else (insolvencyref25_Exposure.j2 kj7 l0 a1 a2 a3 a4 x11_1 x12_1 false ((rd_T30 l0 x12_1).f0) ((rd_T30 l0 x12_1).f1) ((rd_T30 l0 x12_1).f2) ((rd_T30 l0 x12_1).f3) ((rd_T30 l0 x12_1).f4) ((rd_T30 l0 x12_1).f5))) = some r := by rw [if_neg (show ¬ (false = true) by decide)] at H; exact H
                clear H
                have H := H1
                clear H1
                have HC17 := Aside0.mk H
                clear H
                go_upto_region 7 with (fail)
                go_cut [53] (fun v53 wc => ∃ (kq : Nat) (x53_16 : Bool), v53 = .bool x53_16 ∧ Aside0 (insolvencyref25_Exposure.j2 kq l0 a1 a2 a3 a4 x11_1 x12_1 x53_16 ((rd_T30 l0 x12_1).f0) ((rd_T30 l0 x12_1).f1) ((rd_T30 l0 x12_1).f2) ((rd_T30 l0 x12_1).f3) ((rd_T30 l0 x12_1).f4) ((rd_T30 l0 x12_1).f5) = some r) ∧ Aside0 (kq ≤ kj7) ∧ Aside0 (wc.heap[gb114]? = some (.cells #[.int .i64 ((rd_T30 l0 x12_1).f0), .int .i64 ((rd_T30 l0 x12_1).f1), .int .i64 ((rd_T30 l0 x12_1).f2), .int .i64 ((rd_T30 l0 x12_1).f3), .int .i64 ((rd_T30 l0 x12_1).f4), .int .i64 ((rd_T30 l0 x12_1).f5)] 30 (0, 0))) ∧ Aside0 (Below w.heap.size w wc))
                case first =>
                  have H := HC17.out
                  clear HC17
                  by_cases c18 : ((rd_T30 l0 x12_1).f1) = 1
                  · rw [if_pos c18] at H
                    have c18b0 : (((rd_T30 l0 x12_1).f1) == 1) = true := beq_iff_eq.mpr c18
                    have c18b1 : (((rd_T30 l0 x12_1).f1) != 1) = false := bne_eq_false_iff_eq.mpr c18
                    clear c18
                    (first | rw [c18b0] | (simp only [i64_w, i32_w]; rw [c18b0]) | skip)
                    by_cases c19 : ((rd_T30 l0 x12_1).f2) = a1
                    · rw [if_pos c19] at H
                      have c19b0 : (((rd_T30 l0 x12_1).f2) == a1) = true := beq_iff_eq.mpr c19
                      have c19b1 : (((rd_T30 l0 x12_1).f2) != a1) = false := bne_eq_false_iff_eq.mpr c19
                      clear c19
                      have H' := Aside0.mk H
                      clear H
                      have hcz20_0 : wc.cell? ⟨gb114, 0, none⟩ = some (.int .i64 ((rd_T30 l0 x12_1).f0)) := (blk_cell BK114.out 0).trans rfl
                      have hcz20_1 : wc.cell? ⟨gb114, 1, none⟩ = some (.int .i64 ((rd_T30 l0 x12_1).f1)) := (blk_cell BK114.out 1).trans rfl
                      have hcz20_2 : wc.cell? ⟨gb114, 2, none⟩ = some (.int .i64 ((rd_T30 l0 x12_1).f2)) := (blk_cell BK114.out 2).trans rfl
                      have hcz20_3 : wc.cell? ⟨gb114, 3, none⟩ = some (.int .i64 ((rd_T30 l0 x12_1).f3)) := (blk_cell BK114.out 3).trans rfl
                      have hcz20_4 : wc.cell? ⟨gb114, 4, none⟩ = some (.int .i64 ((rd_T30 l0 x12_1).f4)) := (blk_cell BK114.out 4).trans rfl
                      have hcz20_5 : wc.cell? ⟨gb114, 5, none⟩ = some (.int .i64 ((rd_T30 l0 x12_1).f5)) := (blk_cell BK114.out 5).trans rfl
                      have hfz20_0 := blk_frozen BK114.out 0
                      have hfz20_1 := blk_frozen BK114.out 1
                      have hfz20_2 := blk_frozen BK114.out 2
                      have hfz20_3 := blk_frozen BK114.out 3
                      have hfz20_4 := blk_frozen BK114.out 4
                      have hfz20_5 := blk_frozen BK114.out 5
                      go_wp2
                      go_meet
                      case rel => exact ⟨_, ((((rd_T30 l0 x12_1).f3) == a2)), (by first | rfl | (simp; done) | (simp [*]; done)), H', ⟨by have := HK1.out; have := HJ7.out; first | omega | exact Nat.le_refl _⟩, ⟨by (with_reducible repeat (first | refine blk_drewN ?_ _ | refine blk_drew ?_ | refine blk_alloc ?_ _)); exact BK114.out⟩, ⟨by repeat (first | (with_reducible first | exact HB.out | apply below_alloc | apply pw_below_drewN | apply below_drew1 | refine below_set ?_ GE114.out) | exact HB.out)⟩⟩
                    · rw [if_neg c19] at H
                      have c19b0 : (((rd_T30 l0 x12_1).f2) == a1) = false := beq_eq_false_iff_ne.mpr c19
                      have c19b1 : (((rd_T30 l0 x12_1).f2) != a1) = true := bne_iff_ne.mpr c19
                      have H' := Aside0.mk H
                      clear H
                      have hcz21_0 : wc.cell? ⟨gb114, 0, none⟩ = some (.int .i64 ((rd_T30 l0 x12_1).f0)) := (blk_cell BK114.out 0).trans rfl
                      have hcz21_1 : wc.cell? ⟨gb114, 1, none⟩ = some (.int .i64 ((rd_T30 l0 x12_1).f1)) := (blk_cell BK114.out 1).trans rfl
                      have hcz21_2 : wc.cell? ⟨gb114, 2, none⟩ = some (.int .i64 ((rd_T30 l0 x12_1).f2)) := (blk_cell BK114.out 2).trans rfl
                      have hcz21_3 : wc.cell? ⟨gb114, 3, none⟩ = some (.int .i64 ((rd_T30 l0 x12_1).f3)) := (blk_cell BK114.out 3).trans rfl
                      have hcz21_4 : wc.cell? ⟨gb114, 4, none⟩ = some (.int .i64 ((rd_T30 l0 x12_1).f4)) := (blk_cell BK114.out 4).trans rfl
                      have hcz21_5 : wc.cell? ⟨gb114, 5, none⟩ = some (.int .i64 ((rd_T30 l0 x12_1).f5)) := (blk_cell BK114.out 5).trans rfl
                      have hfz21_0 := blk_frozen BK114.out 0
                      have hfz21_1 := blk_frozen BK114.out 1
                      have hfz21_2 := blk_frozen BK114.out 2
                      have hfz21_3 := blk_frozen BK114.out 3
                      have hfz21_4 := blk_frozen BK114.out 4
                      have hfz21_5 := blk_frozen BK114.out 5
                      go_wp2
                      go_meet
                      case rel => exact ⟨_, (false), (by first | rfl | (simp; done) | (simp [*]; done)), H', ⟨by have := HK1.out; have := HJ7.out; first | omega | exact Nat.le_refl _⟩, ⟨by (with_reducible repeat (first | refine blk_drewN ?_ _ | refine blk_drew ?_ | refine blk_alloc ?_ _)); exact BK114.out⟩, ⟨by repeat (first | (with_reducible first | exact HB.out | apply below_alloc | apply pw_below_drewN | apply below_drew1 | refine below_set ?_ GE114.out) | exact HB.out)⟩⟩
                  · rw [if_neg c18] at H
                    have c18b0 : (((rd_T30 l0 x12_1).f1) == 1) = false := beq_eq_false_iff_ne.mpr c18
                    have c18b1 : (((rd_T30 l0 x12_1).f1) != 1) = true := bne_iff_ne.mpr c18
                    (first | rw [c18b0] | (simp only [i64_w, i32_w]; rw [c18b0]) | skip)
                    have H' := Aside0.mk H
                    clear H
                    have hcz22_0 : wc.cell? ⟨gb114, 0, none⟩ = some (.int .i64 ((rd_T30 l0 x12_1).f0)) := (blk_cell BK114.out 0).trans rfl
                    have hcz22_1 : wc.cell? ⟨gb114, 1, none⟩ = some (.int .i64 ((rd_T30 l0 x12_1).f1)) := (blk_cell BK114.out 1).trans rfl
                    have hcz22_2 : wc.cell? ⟨gb114, 2, none⟩ = some (.int .i64 ((rd_T30 l0 x12_1).f2)) := (blk_cell BK114.out 2).trans rfl
                    have hcz22_3 : wc.cell? ⟨gb114, 3, none⟩ = some (.int .i64 ((rd_T30 l0 x12_1).f3)) := (blk_cell BK114.out 3).trans rfl
                    have hcz22_4 : wc.cell? ⟨gb114, 4, none⟩ = some (.int .i64 ((rd_T30 l0 x12_1).f4)) := (blk_cell BK114.out 4).trans rfl
                    have hcz22_5 : wc.cell? ⟨gb114, 5, none⟩ = some (.int .i64 ((rd_T30 l0 x12_1).f5)) := (blk_cell BK114.out 5).trans rfl
                    have hfz22_0 := blk_frozen BK114.out 0
                    have hfz22_1 := blk_frozen BK114.out 1
                    have hfz22_2 := blk_frozen BK114.out 2
                    have hfz22_3 := blk_frozen BK114.out 3
                    have hfz22_4 := blk_frozen BK114.out 4
                    have hfz22_5 := blk_frozen BK114.out 5
                    go_wp2
                    go_meet
                    case rel => exact ⟨_, (false), (by first | rfl | (simp; done) | (simp [*]; done)), H', ⟨by have := HK1.out; have := HJ7.out; first | omega | exact Nat.le_refl _⟩, ⟨by (with_reducible repeat (first | refine blk_drewN ?_ _ | refine blk_drew ?_ | refine blk_alloc ?_ _)); exact BK114.out⟩, ⟨by repeat (first | (with_reducible first | exact HB.out | apply below_alloc | apply pw_below_drewN | apply below_drew1 | refine below_set ?_ GE114.out) | exact HB.out)⟩⟩
                case rest =>
                  clear HC17
                  try clear c1
                  try clear p1
                  try clear q1
                  try clear hx1
                  try clear p2
                  try clear c6
                  try clear c6b0
                  try clear p6
                  try clear c7
                  try clear c7b0
                  try clear c11
                  try clear c11b0
                  try clear p11
                  try clear q11
                  try clear hx11
                  try clear c12
                  try clear c13
                  try clear c13b0
                  try clear c16
                  try clear c18
                  try clear c18b0
                  try clear c18b1
                  try clear c19
                  try clear c19b0
                  try clear c19b1
                  try clear hcz10_0
                  try clear hcz10_1
                  try clear hcz10_2
                  try clear hcz10_3
                  try clear hcz10_4
                  try clear hcz10_5
                  try clear hcz12_0
                  try clear hcz12_1
                  try clear hcz12_2
                  try clear hcz12_3
                  try clear hcz12_4
                  try clear hcz12_5
                  try clear hcz14_0
                  try clear hcz14_1
                  try clear hcz14_2
                  try clear hcz14_3
                  try clear hcz14_4
                  try clear hcz14_5
                  try clear hcz15_0
                  try clear hcz15_1
                  try clear hcz15_2
                  try clear hcz15_3
                  try clear hcz15_4
                  try clear hcz15_5
                  try clear hcz20_0
                  try clear hcz20_1
                  try clear hcz20_2
                  try clear hcz20_3
                  try clear hcz20_4
                  try clear hcz20_5
                  try clear hcz21_0
                  try clear hcz21_1
                  try clear hcz21_2
                  try clear hcz21_3
                  try clear hcz21_4
                  try clear hcz21_5
                  try clear hcz22_0
                  try clear hcz22_1
                  try clear hcz22_2
                  try clear hcz22_3
                  try clear hcz22_4
                  try clear hcz22_5
                  try clear hfz10_0
                  try clear hfz10_1
                  try clear hfz10_2
                  try clear hfz10_3
                  try clear hfz10_4
                  try clear hfz10_5
                  try clear hfz12_0
                  try clear hfz12_1
                  try clear hfz12_2
                  try clear hfz12_3
                  try clear hfz12_4
                  try clear hfz12_5
                  try clear hfz14_0
                  try clear hfz14_1
                  try clear hfz14_2
                  try clear hfz14_3
                  try clear hfz14_4
                  try clear hfz14_5
                  try clear hfz15_0
                  try clear hfz15_1
                  try clear hfz15_2
                  try clear hfz15_3
                  try clear hfz15_4
                  try clear hfz15_5
                  try clear hfz20_0
                  try clear hfz20_1
                  try clear hfz20_2
                  try clear hfz20_3
                  try clear hfz20_4
                  try clear hfz20_5
                  try clear hfz21_0
                  try clear hfz21_1
                  try clear hfz21_2
                  try clear hfz21_3
                  try clear hfz21_4
                  try clear hfz21_5
                  try clear hfz22_0
                  try clear hfz22_1
                  try clear hfz22_2
                  try clear hfz22_3
                  try clear hfz22_4
                  try clear hfz22_5
                  try clear hx113_0
                  try clear hx113_1
                  try clear hx113_2
                  try clear hx113_3
                  try clear hx113_4
                  try clear hx113_5
                  try clear p1
                  try clear p11
                  try clear p113
                  try clear p2
                  try clear q1
                  try clear q11
                  try clear q113
                  obtain ⟨kq, x53_16, rfl, HA, HJ16, BK114, HB⟩ := hcut
                  cases kq with
                  | zero => exact absurd HA.out (by simp [insolvencyref25_Exposure.j2])
                  | succ kj16 =>
                    have H := HA.out
                    clear HA
                    simp only [insolvencyref25_Exposure.j2] at H
                    by_cases c23 : x53_16 = true
                    · subst c23
                      have H1 : (if ((rd_T30 l0 x12_1).f1) = 1 then (if ((rd_T30 l0 x12_1).f2) = a2 then (if ((rd_T30 l0 x12_1).f3) = a1 then (insolvencyref25_Exposure.l0 kj16 l0 a1 a2 a3 a4 (mx 0 (wrap64 ((wrap64 (x11_1 + ((rd_T30 l0 x12_1).f4))) - ((rd_T30 l0 x12_1).f4)))) (wrap64 (x12_1 + 1))) else (insolvencyref25_Exposure.l0 kj16 l0 a1 a2 a3 a4 (wrap64 (x11_1 + ((rd_T30 l0 x12_1).f4))) (wrap64 (x12_1 + 1)))) else (insolvencyref25_Exposure.l0 kj16 l0 a1 a2 a3 a4 (wrap64 (x11_1 + ((rd_T30 l0 x12_1).f4))) (wrap64 (x12_1 + 1)))) else (if ((rd_T30 l0 x12_1).f1) = 2 then (if ((rd_T30 l0 x12_1).f2) = a2 then (if ((rd_T30 l0 x12_1).f3) = a1 then (insolvencyref25_Exposure.l0 kj16 l0 a1 a2 a3 a4 (mx 0 (wrap64 ((wrap64 (x11_1 + ((rd_T30 l0 x12_1).f4))) - ((rd_T30 l0 x12_1).f4)))) (wrap64 (x12_1 + 1))) else (insolvencyref25_Exposure.l0 kj16 l0 a1 a2 a3 a4 (wrap64 (x11_1 + ((rd_T30 l0 x12_1).f4))) (wrap64 (x12_1 + 1)))) else (insolvencyref25_Exposure.l0 kj16 l0 a1 a2 a3 a4 (wrap64 (x11_1 + ((rd_T30 l0 x12_1).f4))) (wrap64 (x12_1 + 1)))) else (insolvencyref25_Exposure.l0 kj16 l0 a1 a2 a3 a4 (wrap64 (x11_1 + ((rd_T30 l0 x12_1).f4))) (wrap64 (x12_1 + 1))))) = some r := by rw [if_pos rfl] at H; exact H
                      clear H
                      have H := H1
                      clear H1
                      by_cases c24 : ((rd_T30 l0 x12_1).f1) = 1
                      · rw [if_pos c24] at H
                        have c24b0 : (((rd_T30 l0 x12_1).f1) == 1) = true := beq_iff_eq.mpr c24
                        have c24b1 : (((rd_T30 l0 x12_1).f1) != 1) = false := bne_eq_false_iff_eq.mpr c24
                        clear c24
                        by_cases c25 : ((rd_T30 l0 x12_1).f2) = a2
                        · rw [if_pos c25] at H
                          have c25b0 : (((rd_T30 l0 x12_1).f2) == a2) = true := beq_iff_eq.mpr c25
                          have c25b1 : (((rd_T30 l0 x12_1).f2) != a2) = false := bne_eq_false_iff_eq.mpr c25
                          clear c25
                          by_cases c26 : ((rd_T30 l0 x12_1).f3) = a1
                          · rw [if_pos c26] at H
                            have c26b0 : (((rd_T30 l0 x12_1).f3) == a1) = true := beq_iff_eq.mpr c26
                            have c26b1 : (((rd_T30 l0 x12_1).f3) != a1) = false := bne_eq_false_iff_eq.mpr c26
                            clear c26
                            obtain ⟨ji27, hji27⟩ : ∃ j_ : Int, (mx 0 (wrap64 ((wrap64 (x11_1 + ((rd_T30 l0 x12_1).f4))) - ((rd_T30 l0 x12_1).f4)))) = j_ := ⟨_, rfl⟩
                            replace H : (insolvencyref25_Exposure.l0 kj16 l0 a1 a2 a3 a4 ji27 (wrap64 (x12_1 + 1))) = some r := by first | (rw [hji27] at H; exact H) | (simp only [hji27] at H ⊢; exact H)
                            have hji27_ : (if 0 < (wrap64 ((wrap64 (x11_1 + ((rd_T30 l0 x12_1).f4))) - ((rd_T30 l0 x12_1).f4))) then (wrap64 ((wrap64 (x11_1 + ((rd_T30 l0 x12_1).f4))) - ((rd_T30 l0 x12_1).f4))) else 0) = ji27 := hji27
                            have H' := Aside0.mk H
                            clear H
                            have hcz28_0 : wc.cell? ⟨gb114, 0, none⟩ = some (.int .i64 ((rd_T30 l0 x12_1).f0)) := (blk_cell BK114.out 0).trans rfl
                            have hcz28_1 : wc.cell? ⟨gb114, 1, none⟩ = some (.int .i64 ((rd_T30 l0 x12_1).f1)) := (blk_cell BK114.out 1).trans rfl
                            have hcz28_2 : wc.cell? ⟨gb114, 2, none⟩ = some (.int .i64 ((rd_T30 l0 x12_1).f2)) := (blk_cell BK114.out 2).trans rfl
                            have hcz28_3 : wc.cell? ⟨gb114, 3, none⟩ = some (.int .i64 ((rd_T30 l0 x12_1).f3)) := (blk_cell BK114.out 3).trans rfl
                            have hcz28_4 : wc.cell? ⟨gb114, 4, none⟩ = some (.int .i64 ((rd_T30 l0 x12_1).f4)) := (blk_cell BK114.out 4).trans rfl
                            have hcz28_5 : wc.cell? ⟨gb114, 5, none⟩ = some (.int .i64 ((rd_T30 l0 x12_1).f5)) := (blk_cell BK114.out 5).trans rfl
                            have hfz28_0 := blk_frozen BK114.out 0
                            have hfz28_1 := blk_frozen BK114.out 1
                            have hfz28_2 := blk_frozen BK114.out 2
                            have hfz28_3 := blk_frozen BK114.out 3
                            have hfz28_4 := blk_frozen BK114.out 4
                            have hfz28_5 := blk_frozen BK114.out 5
                            go_wp2
                            go_roundg kj16
                            case measure => have := HK1.out; have := HJ7.out; have := HJ16.out; omega
                            case rel => exact ⟨(ji27), (wrap64 (x12_1 + 1)), (by first | rfl | (simp; done) | (simp only [← hji27] <;> (first | rfl | simp)) | (simp [*]; done)), (by first | rfl | (simp; done) | (simp [*]; done)), H', ⟨by have := HK1.out; have := HJ7.out; have := HJ16.out; omega⟩, ⟨by repeat (first | (with_reducible first | exact HB.out | apply below_alloc | apply pw_below_drewN | apply below_drew1 | refine below_set ?_ GE114.out) | exact HB.out)⟩⟩
                          · rw [if_neg c26] at H
                            have c26b0 : (((rd_T30 l0 x12_1).f3) == a1) = false := beq_eq_false_iff_ne.mpr c26
                            have c26b1 : (((rd_T30 l0 x12_1).f3) != a1) = true := bne_iff_ne.mpr c26
                            have H' := Aside0.mk H
                            clear H
                            have hcz29_0 : wc.cell? ⟨gb114, 0, none⟩ = some (.int .i64 ((rd_T30 l0 x12_1).f0)) := (blk_cell BK114.out 0).trans rfl
                            have hcz29_1 : wc.cell? ⟨gb114, 1, none⟩ = some (.int .i64 ((rd_T30 l0 x12_1).f1)) := (blk_cell BK114.out 1).trans rfl
                            have hcz29_2 : wc.cell? ⟨gb114, 2, none⟩ = some (.int .i64 ((rd_T30 l0 x12_1).f2)) := (blk_cell BK114.out 2).trans rfl
                            have hcz29_3 : wc.cell? ⟨gb114, 3, none⟩ = some (.int .i64 ((rd_T30 l0 x12_1).f3)) := (blk_cell BK114.out 3).trans rfl
                            have hcz29_4 : wc.cell? ⟨gb114, 4, none⟩ = some (.int .i64 ((rd_T30 l0 x12_1).f4)) := (blk_cell BK114.out 4).trans rfl
                            have hcz29_5 : wc.cell? ⟨gb114, 5, none⟩ = some (.int .i64 ((rd_T30 l0 x12_1).f5)) := (blk_cell BK114.out 5).trans rfl
                            have hfz29_0 := blk_frozen BK114.out 0
                            have hfz29_1 := blk_frozen BK114.out 1
                            have hfz29_2 := blk_frozen BK114.out 2
                            have hfz29_3 := blk_frozen BK114.out 3
                            have hfz29_4 := blk_frozen BK114.out 4
                            have hfz29_5 := blk_frozen BK114.out 5
                            go_wp2
                            go_roundg kj16
                            case measure => have := HK1.out; have := HJ7.out; have := HJ16.out; omega
                            case rel => exact ⟨(wrap64 (x11_1 + ((rd_T30 l0 x12_1).f4))), (wrap64 (x12_1 + 1)), (by first | rfl | (simp; done) | (simp [*]; done)), (by first | rfl | (simp; done) | (simp [*]; done)), H', ⟨by have := HK1.out; have := HJ7.out; have := HJ16.out; omega⟩, ⟨by repeat (first | (with_reducible first | exact HB.out | apply below_alloc | apply pw_below_drewN | apply below_drew1 | refine below_set ?_ GE114.out) | exact HB.out)⟩⟩
                        · rw [if_neg c25] at H
                          have c25b0 : (((rd_T30 l0 x12_1).f2) == a2) = false := beq_eq_false_iff_ne.mpr c25
                          have c25b1 : (((rd_T30 l0 x12_1).f2) != a2) = true := bne_iff_ne.mpr c25
                          have H' := Aside0.mk H
                          clear H
                          have hcz30_0 : wc.cell? ⟨gb114, 0, none⟩ = some (.int .i64 ((rd_T30 l0 x12_1).f0)) := (blk_cell BK114.out 0).trans rfl
                          have hcz30_1 : wc.cell? ⟨gb114, 1, none⟩ = some (.int .i64 ((rd_T30 l0 x12_1).f1)) := (blk_cell BK114.out 1).trans rfl
                          have hcz30_2 : wc.cell? ⟨gb114, 2, none⟩ = some (.int .i64 ((rd_T30 l0 x12_1).f2)) := (blk_cell BK114.out 2).trans rfl
                          have hcz30_3 : wc.cell? ⟨gb114, 3, none⟩ = some (.int .i64 ((rd_T30 l0 x12_1).f3)) := (blk_cell BK114.out 3).trans rfl
                          have hcz30_4 : wc.cell? ⟨gb114, 4, none⟩ = some (.int .i64 ((rd_T30 l0 x12_1).f4)) := (blk_cell BK114.out 4).trans rfl
                          have hcz30_5 : wc.cell? ⟨gb114, 5, none⟩ = some (.int .i64 ((rd_T30 l0 x12_1).f5)) := (blk_cell BK114.out 5).trans rfl
                          have hfz30_0 := blk_frozen BK114.out 0
                          have hfz30_1 := blk_frozen BK114.out 1
                          have hfz30_2 := blk_frozen BK114.out 2
                          have hfz30_3 := blk_frozen BK114.out 3
                          have hfz30_4 := blk_frozen BK114.out 4
                          have hfz30_5 := blk_frozen BK114.out 5
                          go_wp2
                          go_roundg kj16
                          case measure => have := HK1.out; have := HJ7.out; have := HJ16.out; omega
                          case rel => exact ⟨(wrap64 (x11_1 + ((rd_T30 l0 x12_1).f4))), (wrap64 (x12_1 + 1)), (by first | rfl | (simp; done) | (simp [*]; done)), (by first | rfl | (simp; done) | (simp [*]; done)), H', ⟨by have := HK1.out; have := HJ7.out; have := HJ16.out; omega⟩, ⟨by repeat (first | (with_reducible first | exact HB.out | apply below_alloc | apply pw_below_drewN | apply below_drew1 | refine below_set ?_ GE114.out) | exact HB.out)⟩⟩
                      · rw [if_neg c24] at H
                        have c24b0 : (((rd_T30 l0 x12_1).f1) == 1) = false := beq_eq_false_iff_ne.mpr c24
                        have c24b1 : (((rd_T30 l0 x12_1).f1) != 1) = true := bne_iff_ne.mpr c24
                        by_cases c31 : ((rd_T30 l0 x12_1).f1) = 2
                        · rw [if_pos c31] at H
                          have c31b0 : (((rd_T30 l0 x12_1).f1) == 2) = true := beq_iff_eq.mpr c31
                          have c31b1 : (((rd_T30 l0 x12_1).f1) != 2) = false := bne_eq_false_iff_eq.mpr c31
                          clear c31
                          by_cases c32 : ((rd_T30 l0 x12_1).f2) = a2
                          · rw [if_pos c32] at H
                            have c32b0 : (((rd_T30 l0 x12_1).f2) == a2) = true := beq_iff_eq.mpr c32
                            have c32b1 : (((rd_T30 l0 x12_1).f2) != a2) = false := bne_eq_false_iff_eq.mpr c32
                            clear c32
                            by_cases c33 : ((rd_T30 l0 x12_1).f3) = a1
                            · rw [if_pos c33] at H
                              have c33b0 : (((rd_T30 l0 x12_1).f3) == a1) = true := beq_iff_eq.mpr c33
                              have c33b1 : (((rd_T30 l0 x12_1).f3) != a1) = false := bne_eq_false_iff_eq.mpr c33
                              clear c33
                              obtain ⟨ji34, hji34⟩ : ∃ j_ : Int, (mx 0 (wrap64 ((wrap64 (x11_1 + ((rd_T30 l0 x12_1).f4))) - ((rd_T30 l0 x12_1).f4)))) = j_ := ⟨_, rfl⟩
                              replace H : (insolvencyref25_Exposure.l0 kj16 l0 a1 a2 a3 a4 ji34 (wrap64 (x12_1 + 1))) = some r := by first | (rw [hji34] at H; exact H) | (simp only [hji34] at H ⊢; exact H)
                              have hji34_ : (if 0 < (wrap64 ((wrap64 (x11_1 + ((rd_T30 l0 x12_1).f4))) - ((rd_T30 l0 x12_1).f4))) then (wrap64 ((wrap64 (x11_1 + ((rd_T30 l0 x12_1).f4))) - ((rd_T30 l0 x12_1).f4))) else 0) = ji34 := hji34
                              have H' := Aside0.mk H
                              clear H
                              have hcz35_0 : wc.cell? ⟨gb114, 0, none⟩ = some (.int .i64 ((rd_T30 l0 x12_1).f0)) := (blk_cell BK114.out 0).trans rfl
                              have hcz35_1 : wc.cell? ⟨gb114, 1, none⟩ = some (.int .i64 ((rd_T30 l0 x12_1).f1)) := (blk_cell BK114.out 1).trans rfl
                              have hcz35_2 : wc.cell? ⟨gb114, 2, none⟩ = some (.int .i64 ((rd_T30 l0 x12_1).f2)) := (blk_cell BK114.out 2).trans rfl
                              have hcz35_3 : wc.cell? ⟨gb114, 3, none⟩ = some (.int .i64 ((rd_T30 l0 x12_1).f3)) := (blk_cell BK114.out 3).trans rfl
                              have hcz35_4 : wc.cell? ⟨gb114, 4, none⟩ = some (.int .i64 ((rd_T30 l0 x12_1).f4)) := (blk_cell BK114.out 4).trans rfl
                              have hcz35_5 : wc.cell? ⟨gb114, 5, none⟩ = some (.int .i64 ((rd_T30 l0 x12_1).f5)) := (blk_cell BK114.out 5).trans rfl
                              have hfz35_0 := blk_frozen BK114.out 0
                              have hfz35_1 := blk_frozen BK114.out 1
                              have hfz35_2 := blk_frozen BK114.out 2
                              have hfz35_3 := blk_frozen BK114.out 3
                              have hfz35_4 := blk_frozen BK114.out 4
                              have hfz35_5 := blk_frozen BK114.out 5
                              go_wp2
                              go_roundg kj16
                              case measure => have := HK1.out; have := HJ7.out; have := HJ16.out; omega
                              case rel => exact ⟨(ji34), (wrap64 (x12_1 + 1)), (by first | rfl | (simp; done) | (simp only [← hji34] <;> (first | rfl | simp)) | (simp [*]; done)), (by first | rfl | (simp; done) | (simp [*]; done)), H', ⟨by have := HK1.out; have := HJ7.out; have := HJ16.out; omega⟩, ⟨by repeat (first | (with_reducible first | exact HB.out | apply below_alloc | apply pw_below_drewN | apply below_drew1 | refine below_set ?_ GE114.out) | exact HB.out)⟩⟩
                            · rw [if_neg c33] at H
                              have c33b0 : (((rd_T30 l0 x12_1).f3) == a1) = false := beq_eq_false_iff_ne.mpr c33
                              have c33b1 : (((rd_T30 l0 x12_1).f3) != a1) = true := bne_iff_ne.mpr c33
                              have H' := Aside0.mk H
                              clear H
                              have hcz36_0 : wc.cell? ⟨gb114, 0, none⟩ = some (.int .i64 ((rd_T30 l0 x12_1).f0)) := (blk_cell BK114.out 0).trans rfl
                              have hcz36_1 : wc.cell? ⟨gb114, 1, none⟩ = some (.int .i64 ((rd_T30 l0 x12_1).f1)) := (blk_cell BK114.out 1).trans rfl
                              have hcz36_2 : wc.cell? ⟨gb114, 2, none⟩ = some (.int .i64 ((rd_T30 l0 x12_1).f2)) := (blk_cell BK114.out 2).trans rfl
                              have hcz36_3 : wc.cell? ⟨gb114, 3, none⟩ = some (.int .i64 ((rd_T30 l0 x12_1).f3)) := (blk_cell BK114.out 3).trans rfl
                              have hcz36_4 : wc.cell? ⟨gb114, 4, none⟩ = some (.int .i64 ((rd_T30 l0 x12_1).f4)) := (blk_cell BK114.out 4).trans rfl
                              have hcz36_5 : wc.cell? ⟨gb114, 5, none⟩ = some (.int .i64 ((rd_T30 l0 x12_1).f5)) := (blk_cell BK114.out 5).trans rfl
                              have hfz36_0 := blk_frozen BK114.out 0
                              have hfz36_1 := blk_frozen BK114.out 1
                              have hfz36_2 := blk_frozen BK114.out 2
                              have hfz36_3 := blk_frozen BK114.out 3
                              have hfz36_4 := blk_frozen BK114.out 4
                              have hfz36_5 := blk_frozen BK114.out 5
                              go_wp2
                              go_roundg kj16
                              case measure => have := HK1.out; have := HJ7.out; have := HJ16.out; omega
                              case rel => exact ⟨(wrap64 (x11_1 + ((rd_T30 l0 x12_1).f4))), (wrap64 (x12_1 + 1)), (by first | rfl | (simp; done) | (simp [*]; done)), (by first | rfl | (simp; done) | (simp [*]; done)), H', ⟨by have := HK1.out; have := HJ7.out; have := HJ16.out; omega⟩, ⟨by repeat (first | (with_reducible first | exact HB.out | apply below_alloc | apply pw_below_drewN | apply below_drew1 | refine below_set ?_ GE114.out) | exact HB.out)⟩⟩
                          · rw [if_neg c32] at H
                            have c32b0 : (((rd_T30 l0 x12_1).f2) == a2) = false := beq_eq_false_iff_ne.mpr c32
                            have c32b1 : (((rd_T30 l0 x12_1).f2) != a2) = true := bne_iff_ne.mpr c32
                            have H' := Aside0.mk H
                            clear H
                            have hcz37_0 : wc.cell? ⟨gb114, 0, none⟩ = some (.int .i64 ((rd_T30 l0 x12_1).f0)) := (blk_cell BK114.out 0).trans rfl
                            have hcz37_1 : wc.cell? ⟨gb114, 1, none⟩ = some (.int .i64 ((rd_T30 l0 x12_1).f1)) := (blk_cell BK114.out 1).trans rfl
                            have hcz37_2 : wc.cell? ⟨gb114, 2, none⟩ = some (.int .i64 ((rd_T30 l0 x12_1).f2)) := (blk_cell BK114.out 2).trans rfl
                            have hcz37_3 : wc.cell? ⟨gb114, 3, none⟩ = some (.int .i64 ((rd_T30 l0 x12_1).f3)) := (blk_cell BK114.out 3).trans rfl
                            have hcz37_4 : wc.cell? ⟨gb114, 4, none⟩ = some (.int .i64 ((rd_T30 l0 x12_1).f4)) := (blk_cell BK114.out 4).trans rfl
                            have hcz37_5 : wc.cell? ⟨gb114, 5, none⟩ = some (.int .i64 ((rd_T30 l0 x12_1).f5)) := (blk_cell BK114.out 5).trans rfl
                            have hfz37_0 := blk_frozen BK114.out 0
                            have hfz37_1 := blk_frozen BK114.out 1
                            have hfz37_2 := blk_frozen BK114.out 2
                            have hfz37_3 := blk_frozen BK114.out 3
                            have hfz37_4 := blk_frozen BK114.out 4
                            have hfz37_5 := blk_frozen BK114.out 5
                            go_wp2
                            go_roundg kj16
                            case measure => have := HK1.out; have := HJ7.out; have := HJ16.out; omega
                            case rel => exact ⟨(wrap64 (x11_1 + ((rd_T30 l0 x12_1).f4))), (wrap64 (x12_1 + 1)), (by first | rfl | (simp; done) | (simp [*]; done)), (by first | rfl | (simp; done) | (simp [*]; done)), H', ⟨by have := HK1.out; have := HJ7.out; have := HJ16.out; omega⟩, ⟨by repeat (first | (with_reducible first | exact HB.out | apply below_alloc | apply pw_below_drewN | apply below_drew1 | refine below_set ?_ GE114.out) | exact HB.out)⟩⟩
                        · rw [if_neg c31] at H
                          have c31b0 : (((rd_T30 l0 x12_1).f1) == 2) = false := beq_eq_false_iff_ne.mpr c31
                          have c31b1 : (((rd_T30 l0 x12_1).f1) != 2) = true := bne_iff_ne.mpr c31
                          have H' := Aside0.mk H
                          clear H
                          have hcz38_0 : wc.cell? ⟨gb114, 0, none⟩ = some (.int .i64 ((rd_T30 l0 x12_1).f0)) := (blk_cell BK114.out 0).trans rfl
                          have hcz38_1 : wc.cell? ⟨gb114, 1, none⟩ = some (.int .i64 ((rd_T30 l0 x12_1).f1)) := (blk_cell BK114.out 1).trans rfl
                          have hcz38_2 : wc.cell? ⟨gb114, 2, none⟩ = some (.int .i64 ((rd_T30 l0 x12_1).f2)) := (blk_cell BK114.out 2).trans rfl
                          have hcz38_3 : wc.cell? ⟨gb114, 3, none⟩ = some (.int .i64 ((rd_T30 l0 x12_1).f3)) := (blk_cell BK114.out 3).trans rfl
                          have hcz38_4 : wc.cell? ⟨gb114, 4, none⟩ = some (.int .i64 ((rd_T30 l0 x12_1).f4)) := (blk_cell BK114.out 4).trans rfl
                          have hcz38_5 : wc.cell? ⟨gb114, 5, none⟩ = some (.int .i64 ((rd_T30 l0 x12_1).f5)) := (blk_cell BK114.out 5).trans rfl
                          have hfz38_0 := blk_frozen BK114.out 0
                          have hfz38_1 := blk_frozen BK114.out 1
                          have hfz38_2 := blk_frozen BK114.out 2
                          have hfz38_3 := blk_frozen BK114.out 3
                          have hfz38_4 := blk_frozen BK114.out 4
                          have hfz38_5 := blk_frozen BK114.out 5
                          go_wp2
                          go_roundg kj16
                          case measure => have := HK1.out; have := HJ7.out; have := HJ16.out; omega
                          case rel => exact ⟨(wrap64 (x11_1 + ((rd_T30 l0 x12_1).f4))), (wrap64 (x12_1 + 1)), (by first | rfl | (simp; done) | (simp [*]; done)), (by first | rfl | (simp; done) | (simp [*]; done)), H', ⟨by have := HK1.out; have := HJ7.out; have := HJ16.out; omega⟩, ⟨by repeat (first | (with_reducible first | exact HB.out | apply below_alloc | apply pw_below_drewN | apply below_drew1 | refine below_set ?_ GE114.out) | exact HB.out)⟩⟩
                    · replace c23 := Bool.eq_false_iff.mpr c23
                      subst c23
                      have H1 : (if ((rd_T30 l0 x12_1).f1) = 1 then (if ((rd_T30 l0 x12_1).f2) = a2 then (if ((rd_T30 l0 x12_1).f3) = a1 then (insolvencyref25_Exposure.l0 kj16 l0 a1 a2 a3 a4 (mx 0 (wrap64 (x11_1 - ((rd_T30 l0 x12_1).f4)))) (wrap64 (x12_1 + 1))) else (insolvencyref25_Exposure.l0 kj16 l0 a1 a2 a3 a4 x11_1 (wrap64 (x12_1 + 1)))) else (insolvencyref25_Exposure.l0 kj16 l0 a1 a2 a3 a4 x11_1 (wrap64 (x12_1 + 1)))) else (if ((rd_T30 l0 x12_1).f1) = 2 then (if ((rd_T30 l0 x12_1).f2) = a2 then (if ((rd_T30 l0 x12_1).f3) = a1 then (insolvencyref25_Exposure.l0 kj16 l0 a1 a2 a3 a4 (mx 0 (wrap64 (x11_1 - ((rd_T30 l0 x12_1).f4)))) (wrap64 (x12_1 + 1))) else (insolvencyref25_Exposure.l0 kj16 l0 a1 a2 a3 a4 x11_1 (wrap64 (x12_1 + 1)))) else (insolvencyref25_Exposure.l0 kj16 l0 a1 a2 a3 a4 x11_1 (wrap64 (x12_1 + 1)))) else (insolvencyref25_Exposure.l0 kj16 l0 a1 a2 a3 a4 x11_1 (wrap64 (x12_1 + 1))))) = some r := by rw [if_neg (show ¬ (false = true) by decide)] at H; exact H
                      clear H
                      have H := H1
                      clear H1
                      by_cases c39 : ((rd_T30 l0 x12_1).f1) = 1
                      · rw [if_pos c39] at H
                        have c39b0 : (((rd_T30 l0 x12_1).f1) == 1) = true := beq_iff_eq.mpr c39
                        have c39b1 : (((rd_T30 l0 x12_1).f1) != 1) = false := bne_eq_false_iff_eq.mpr c39
                        clear c39
                        by_cases c40 : ((rd_T30 l0 x12_1).f2) = a2
                        · rw [if_pos c40] at H
                          have c40b0 : (((rd_T30 l0 x12_1).f2) == a2) = true := beq_iff_eq.mpr c40
                          have c40b1 : (((rd_T30 l0 x12_1).f2) != a2) = false := bne_eq_false_iff_eq.mpr c40
                          clear c40
                          by_cases c41 : ((rd_T30 l0 x12_1).f3) = a1
                          · rw [if_pos c41] at H
                            have c41b0 : (((rd_T30 l0 x12_1).f3) == a1) = true := beq_iff_eq.mpr c41
                            have c41b1 : (((rd_T30 l0 x12_1).f3) != a1) = false := bne_eq_false_iff_eq.mpr c41
                            clear c41
                            obtain ⟨ji42, hji42⟩ : ∃ j_ : Int, (mx 0 (wrap64 (x11_1 - ((rd_T30 l0 x12_1).f4)))) = j_ := ⟨_, rfl⟩
                            replace H : (insolvencyref25_Exposure.l0 kj16 l0 a1 a2 a3 a4 ji42 (wrap64 (x12_1 + 1))) = some r := by first | (rw [hji42] at H; exact H) | (simp only [hji42] at H ⊢; exact H)
                            have hji42_ : (if 0 < (wrap64 (x11_1 - ((rd_T30 l0 x12_1).f4))) then (wrap64 (x11_1 - ((rd_T30 l0 x12_1).f4))) else 0) = ji42 := hji42
                            have H' := Aside0.mk H
                            clear H
                            have hcz43_0 : wc.cell? ⟨gb114, 0, none⟩ = some (.int .i64 ((rd_T30 l0 x12_1).f0)) := (blk_cell BK114.out 0).trans rfl
                            have hcz43_1 : wc.cell? ⟨gb114, 1, none⟩ = some (.int .i64 ((rd_T30 l0 x12_1).f1)) := (blk_cell BK114.out 1).trans rfl
                            have hcz43_2 : wc.cell? ⟨gb114, 2, none⟩ = some (.int .i64 ((rd_T30 l0 x12_1).f2)) := (blk_cell BK114.out 2).trans rfl
                            have hcz43_3 : wc.cell? ⟨gb114, 3, none⟩ = some (.int .i64 ((rd_T30 l0 x12_1).f3)) := (blk_cell BK114.out 3).trans rfl
                            have hcz43_4 : wc.cell? ⟨gb114, 4, none⟩ = some (.int .i64 ((rd_T30 l0 x12_1).f4)) := (blk_cell BK114.out 4).trans rfl
                            have hcz43_5 : wc.cell? ⟨gb114, 5, none⟩ = some (.int .i64 ((rd_T30 l0 x12_1).f5)) := (blk_cell BK114.out 5).trans rfl
                            have hfz43_0 := blk_frozen BK114.out 0
                            have hfz43_1 := blk_frozen BK114.out 1
                            have hfz43_2 := blk_frozen BK114.out 2
                            have hfz43_3 := blk_frozen BK114.out 3
                            have hfz43_4 := blk_frozen BK114.out 4
                            have hfz43_5 := blk_frozen BK114.out 5
                            go_wp2
                            go_roundg kj16
                            case measure => have := HK1.out; have := HJ7.out; have := HJ16.out; omega
                            case rel => exact ⟨(ji42), (wrap64 (x12_1 + 1)), (by first | rfl | (simp; done) | (simp only [← hji42] <;> (first | rfl | simp)) | (simp [*]; done)), (by first | rfl | (simp; done) | (simp [*]; done)), H', ⟨by have := HK1.out; have := HJ7.out; have := HJ16.out; omega⟩, ⟨by repeat (first | (with_reducible first | exact HB.out | apply below_alloc | apply pw_below_drewN | apply below_drew1 | refine below_set ?_ GE114.out) | exact HB.out)⟩⟩
                          · rw [if_neg c41] at H
                            have c41b0 : (((rd_T30 l0 x12_1).f3) == a1) = false := beq_eq_false_iff_ne.mpr c41
                            have c41b1 : (((rd_T30 l0 x12_1).f3) != a1) = true := bne_iff_ne.mpr c41
                            have H' := Aside0.mk H
                            clear H
                            have hcz44_0 : wc.cell? ⟨gb114, 0, none⟩ = some (.int .i64 ((rd_T30 l0 x12_1).f0)) := (blk_cell BK114.out 0).trans rfl
                            have hcz44_1 : wc.cell? ⟨gb114, 1, none⟩ = some (.int .i64 ((rd_T30 l0 x12_1).f1)) := (blk_cell BK114.out 1).trans rfl
                            have hcz44_2 : wc.cell? ⟨gb114, 2, none⟩ = some (.int .i64 ((rd_T30 l0 x12_1).f2)) := (blk_cell BK114.out 2).trans rfl
                            have hcz44_3 : wc.cell? ⟨gb114, 3, none⟩ = some (.int .i64 ((rd_T30 l0 x12_1).f3)) := (blk_cell BK114.out 3).trans rfl
                            have hcz44_4 : wc.cell? ⟨gb114, 4, none⟩ = some (.int .i64 ((rd_T30 l0 x12_1).f4)) := (blk_cell BK114.out 4).trans rfl
                            have hcz44_5 : wc.cell? ⟨gb114, 5, none⟩ = some (.int .i64 ((rd_T30 l0 x12_1).f5)) := (blk_cell BK114.out 5).trans rfl
                            have hfz44_0 := blk_frozen BK114.out 0
                            have hfz44_1 := blk_frozen BK114.out 1
                            have hfz44_2 := blk_frozen BK114.out 2
                            have hfz44_3 := blk_frozen BK114.out 3
                            have hfz44_4 := blk_frozen BK114.out 4
                            have hfz44_5 := blk_frozen BK114.out 5
                            go_wp2
                            go_roundg kj16
                            case measure => have := HK1.out; have := HJ7.out; have := HJ16.out; omega
                            case rel => exact ⟨(x11_1), (wrap64 (x12_1 + 1)), (by first | rfl | (simp; done) | (simp [*]; done)), (by first | rfl | (simp; done) | (simp [*]; done)), H', ⟨by have := HK1.out; have := HJ7.out; have := HJ16.out; omega⟩, ⟨by repeat (first | (with_reducible first | exact HB.out | apply below_alloc | apply pw_below_drewN | apply below_drew1 | refine below_set ?_ GE114.out) | exact HB.out)⟩⟩
                        · rw [if_neg c40] at H
                          have c40b0 : (((rd_T30 l0 x12_1).f2) == a2) = false := beq_eq_false_iff_ne.mpr c40
                          have c40b1 : (((rd_T30 l0 x12_1).f2) != a2) = true := bne_iff_ne.mpr c40
                          have H' := Aside0.mk H
                          clear H
                          have hcz45_0 : wc.cell? ⟨gb114, 0, none⟩ = some (.int .i64 ((rd_T30 l0 x12_1).f0)) := (blk_cell BK114.out 0).trans rfl
                          have hcz45_1 : wc.cell? ⟨gb114, 1, none⟩ = some (.int .i64 ((rd_T30 l0 x12_1).f1)) := (blk_cell BK114.out 1).trans rfl
                          have hcz45_2 : wc.cell? ⟨gb114, 2, none⟩ = some (.int .i64 ((rd_T30 l0 x12_1).f2)) := (blk_cell BK114.out 2).trans rfl
                          have hcz45_3 : wc.cell? ⟨gb114, 3, none⟩ = some (.int .i64 ((rd_T30 l0 x12_1).f3)) := (blk_cell BK114.out 3).trans rfl
                          have hcz45_4 : wc.cell? ⟨gb114, 4, none⟩ = some (.int .i64 ((rd_T30 l0 x12_1).f4)) := (blk_cell BK114.out 4).trans rfl
                          have hcz45_5 : wc.cell? ⟨gb114, 5, none⟩ = some (.int .i64 ((rd_T30 l0 x12_1).f5)) := (blk_cell BK114.out 5).trans rfl
                          have hfz45_0 := blk_frozen BK114.out 0
                          have hfz45_1 := blk_frozen BK114.out 1
                          have hfz45_2 := blk_frozen BK114.out 2
                          have hfz45_3 := blk_frozen BK114.out 3
                          have hfz45_4 := blk_frozen BK114.out 4
                          have hfz45_5 := blk_frozen BK114.out 5
                          go_wp2
                          go_roundg kj16
                          case measure => have := HK1.out; have := HJ7.out; have := HJ16.out; omega
                          case rel => exact ⟨(x11_1), (wrap64 (x12_1 + 1)), (by first | rfl | (simp; done) | (simp [*]; done)), (by first | rfl | (simp; done) | (simp [*]; done)), H', ⟨by have := HK1.out; have := HJ7.out; have := HJ16.out; omega⟩, ⟨by repeat (first | (with_reducible first | exact HB.out | apply below_alloc | apply pw_below_drewN | apply below_drew1 | refine below_set ?_ GE114.out) | exact HB.out)⟩⟩
                      · rw [if_neg c39] at H
                        have c39b0 : (((rd_T30 l0 x12_1).f1) == 1) = false := beq_eq_false_iff_ne.mpr c39
                        have c39b1 : (((rd_T30 l0 x12_1).f1) != 1) = true := bne_iff_ne.mpr c39
                        by_cases c46 : ((rd_T30 l0 x12_1).f1) = 2
                        · rw [if_pos c46] at H
                          have c46b0 : (((rd_T30 l0 x12_1).f1) == 2) = true := beq_iff_eq.mpr c46
                          have c46b1 : (((rd_T30 l0 x12_1).f1) != 2) = false := bne_eq_false_iff_eq.mpr c46
                          clear c46
                          by_cases c47 : ((rd_T30 l0 x12_1).f2) = a2
                          · rw [if_pos c47] at H
                            have c47b0 : (((rd_T30 l0 x12_1).f2) == a2) = true := beq_iff_eq.mpr c47
                            have c47b1 : (((rd_T30 l0 x12_1).f2) != a2) = false := bne_eq_false_iff_eq.mpr c47
                            clear c47
                            by_cases c48 : ((rd_T30 l0 x12_1).f3) = a1
                            · rw [if_pos c48] at H
                              have c48b0 : (((rd_T30 l0 x12_1).f3) == a1) = true := beq_iff_eq.mpr c48
                              have c48b1 : (((rd_T30 l0 x12_1).f3) != a1) = false := bne_eq_false_iff_eq.mpr c48
                              clear c48
                              obtain ⟨ji49, hji49⟩ : ∃ j_ : Int, (mx 0 (wrap64 (x11_1 - ((rd_T30 l0 x12_1).f4)))) = j_ := ⟨_, rfl⟩
                              replace H : (insolvencyref25_Exposure.l0 kj16 l0 a1 a2 a3 a4 ji49 (wrap64 (x12_1 + 1))) = some r := by first | (rw [hji49] at H; exact H) | (simp only [hji49] at H ⊢; exact H)
                              have hji49_ : (if 0 < (wrap64 (x11_1 - ((rd_T30 l0 x12_1).f4))) then (wrap64 (x11_1 - ((rd_T30 l0 x12_1).f4))) else 0) = ji49 := hji49
                              have H' := Aside0.mk H
                              clear H
                              have hcz50_0 : wc.cell? ⟨gb114, 0, none⟩ = some (.int .i64 ((rd_T30 l0 x12_1).f0)) := (blk_cell BK114.out 0).trans rfl
                              have hcz50_1 : wc.cell? ⟨gb114, 1, none⟩ = some (.int .i64 ((rd_T30 l0 x12_1).f1)) := (blk_cell BK114.out 1).trans rfl
                              have hcz50_2 : wc.cell? ⟨gb114, 2, none⟩ = some (.int .i64 ((rd_T30 l0 x12_1).f2)) := (blk_cell BK114.out 2).trans rfl
                              have hcz50_3 : wc.cell? ⟨gb114, 3, none⟩ = some (.int .i64 ((rd_T30 l0 x12_1).f3)) := (blk_cell BK114.out 3).trans rfl
                              have hcz50_4 : wc.cell? ⟨gb114, 4, none⟩ = some (.int .i64 ((rd_T30 l0 x12_1).f4)) := (blk_cell BK114.out 4).trans rfl
                              have hcz50_5 : wc.cell? ⟨gb114, 5, none⟩ = some (.int .i64 ((rd_T30 l0 x12_1).f5)) := (blk_cell BK114.out 5).trans rfl
                              have hfz50_0 := blk_frozen BK114.out 0
                              have hfz50_1 := blk_frozen BK114.out 1
                              have hfz50_2 := blk_frozen BK114.out 2
                              have hfz50_3 := blk_frozen BK114.out 3
                              have hfz50_4 := blk_frozen BK114.out 4
                              have hfz50_5 := blk_frozen BK114.out 5
                              go_wp2
                              go_roundg kj16
                              case measure => have := HK1.out; have := HJ7.out; have := HJ16.out; omega
                              case rel => exact ⟨(ji49), (wrap64 (x12_1 + 1)), (by first | rfl | (simp; done) | (simp only [← hji49] <;> (first | rfl | simp)) | (simp [*]; done)), (by first | rfl | (simp; done) | (simp [*]; done)), H', ⟨by have := HK1.out; have := HJ7.out; have := HJ16.out; omega⟩, ⟨by repeat (first | (with_reducible first | exact HB.out | apply below_alloc | apply pw_below_drewN | apply below_drew1 | refine below_set ?_ GE114.out) | exact HB.out)⟩⟩
                            · rw [if_neg c48] at H
                              have c48b0 : (((rd_T30 l0 x12_1).f3) == a1) = false := beq_eq_false_iff_ne.mpr c48
                              have c48b1 : (((rd_T30 l0 x12_1).f3) != a1) = true := bne_iff_ne.mpr c48
                              have H' := Aside0.mk H
                              clear H
                              have hcz51_0 : wc.cell? ⟨gb114, 0, none⟩ = some (.int .i64 ((rd_T30 l0 x12_1).f0)) := (blk_cell BK114.out 0).trans rfl
                              have hcz51_1 : wc.cell? ⟨gb114, 1, none⟩ = some (.int .i64 ((rd_T30 l0 x12_1).f1)) := (blk_cell BK114.out 1).trans rfl
                              have hcz51_2 : wc.cell? ⟨gb114, 2, none⟩ = some (.int .i64 ((rd_T30 l0 x12_1).f2)) := (blk_cell BK114.out 2).trans rfl
                              have hcz51_3 : wc.cell? ⟨gb114, 3, none⟩ = some (.int .i64 ((rd_T30 l0 x12_1).f3)) := (blk_cell BK114.out 3).trans rfl
                              have hcz51_4 : wc.cell? ⟨gb114, 4, none⟩ = some (.int .i64 ((rd_T30 l0 x12_1).f4)) := (blk_cell BK114.out 4).trans rfl
                              have hcz51_5 : wc.cell? ⟨gb114, 5, none⟩ = some (.int .i64 ((rd_T30 l0 x12_1).f5)) := (blk_cell BK114.out 5).trans rfl
                              have hfz51_0 := blk_frozen BK114.out 0
                              have hfz51_1 := blk_frozen BK114.out 1
                              have hfz51_2 := blk_frozen BK114.out 2
                              have hfz51_3 := blk_frozen BK114.out 3
                              have hfz51_4 := blk_frozen BK114.out 4
                              have hfz51_5 := blk_frozen BK114.out 5
                              go_wp2
                              go_roundg kj16
                              case measure => have := HK1.out; have := HJ7.out; have := HJ16.out; omega
                              case rel => exact ⟨(x11_1), (wrap64 (x12_1 + 1)), (by first | rfl | (simp; done) | (simp [*]; done)), (by first | rfl | (simp; done) | (simp [*]; done)), H', ⟨by have := HK1.out; have := HJ7.out; have := HJ16.out; omega⟩, ⟨by repeat (first | (with_reducible first | exact HB.out | apply below_alloc | apply pw_below_drewN | apply below_drew1 | refine below_set ?_ GE114.out) | exact HB.out)⟩⟩
                          · rw [if_neg c47] at H
                            have c47b0 : (((rd_T30 l0 x12_1).f2) == a2) = false := beq_eq_false_iff_ne.mpr c47
                            have c47b1 : (((rd_T30 l0 x12_1).f2) != a2) = true := bne_iff_ne.mpr c47
                            have H' := Aside0.mk H
                            clear H
                            have hcz52_0 : wc.cell? ⟨gb114, 0, none⟩ = some (.int .i64 ((rd_T30 l0 x12_1).f0)) := (blk_cell BK114.out 0).trans rfl
                            have hcz52_1 : wc.cell? ⟨gb114, 1, none⟩ = some (.int .i64 ((rd_T30 l0 x12_1).f1)) := (blk_cell BK114.out 1).trans rfl
                            have hcz52_2 : wc.cell? ⟨gb114, 2, none⟩ = some (.int .i64 ((rd_T30 l0 x12_1).f2)) := (blk_cell BK114.out 2).trans rfl
                            have hcz52_3 : wc.cell? ⟨gb114, 3, none⟩ = some (.int .i64 ((rd_T30 l0 x12_1).f3)) := (blk_cell BK114.out 3).trans rfl
                            have hcz52_4 : wc.cell? ⟨gb114, 4, none⟩ = some (.int .i64 ((rd_T30 l0 x12_1).f4)) := (blk_cell BK114.out 4).trans rfl
                            have hcz52_5 : wc.cell? ⟨gb114, 5, none⟩ = some (.int .i64 ((rd_T30 l0 x12_1).f5)) := (blk_cell BK114.out 5).trans rfl
                            have hfz52_0 := blk_frozen BK114.out 0
                            have hfz52_1 := blk_frozen BK114.out 1
                            have hfz52_2 := blk_frozen BK114.out 2
                            have hfz52_3 := blk_frozen BK114.out 3
                            have hfz52_4 := blk_frozen BK114.out 4
                            have hfz52_5 := blk_frozen BK114.out 5
                            go_wp2
                            go_roundg kj16
                            case measure => have := HK1.out; have := HJ7.out; have := HJ16.out; omega
                            case rel => exact ⟨(x11_1), (wrap64 (x12_1 + 1)), (by first | rfl | (simp; done) | (simp [*]; done)), (by first | rfl | (simp; done) | (simp [*]; done)), H', ⟨by have := HK1.out; have := HJ7.out; have := HJ16.out; omega⟩, ⟨by repeat (first | (with_reducible first | exact HB.out | apply below_alloc | apply pw_below_drewN | apply below_drew1 | refine below_set ?_ GE114.out) | exact HB.out)⟩⟩
                        · rw [if_neg c46] at H
                          have c46b0 : (((rd_T30 l0 x12_1).f1) == 2) = false := beq_eq_false_iff_ne.mpr c46
                          have c46b1 : (((rd_T30 l0 x12_1).f1) != 2) = true := bne_iff_ne.mpr c46
                          have H' := Aside0.mk H
                          clear H
                          have hcz53_0 : wc.cell? ⟨gb114, 0, none⟩ = some (.int .i64 ((rd_T30 l0 x12_1).f0)) := (blk_cell BK114.out 0).trans rfl
                          have hcz53_1 : wc.cell? ⟨gb114, 1, none⟩ = some (.int .i64 ((rd_T30 l0 x12_1).f1)) := (blk_cell BK114.out 1).trans rfl
                          have hcz53_2 : wc.cell? ⟨gb114, 2, none⟩ = some (.int .i64 ((rd_T30 l0 x12_1).f2)) := (blk_cell BK114.out 2).trans rfl
                          have hcz53_3 : wc.cell? ⟨gb114, 3, none⟩ = some (.int .i64 ((rd_T30 l0 x12_1).f3)) := (blk_cell BK114.out 3).trans rfl
                          have hcz53_4 : wc.cell? ⟨gb114, 4, none⟩ = some (.int .i64 ((rd_T30 l0 x12_1).f4)) := (blk_cell BK114.out 4).trans rfl
                          have hcz53_5 : wc.cell? ⟨gb114, 5, none⟩ = some (.int .i64 ((rd_T30 l0 x12_1).f5)) := (blk_cell BK114.out 5).trans rfl
                          have hfz53_0 := blk_frozen BK114.out 0
                          have hfz53_1 := blk_frozen BK114.out 1
                          have hfz53_2 := blk_frozen BK114.out 2
                          have hfz53_3 := blk_frozen BK114.out 3
                          have hfz53_4 := blk_frozen BK114.out 4
                          have hfz53_5 := blk_frozen BK114.out 5
                          go_wp2
                          go_roundg kj16
                          case measure => have := HK1.out; have := HJ7.out; have := HJ16.out; omega
                          case rel => exact ⟨(x11_1), (wrap64 (x12_1 + 1)), (by first | rfl | (simp; done) | (simp [*]; done)), (by first | rfl | (simp; done) | (simp [*]; done)), H', ⟨by have := HK1.out; have := HJ7.out; have := HJ16.out; omega⟩, ⟨by repeat (first | (with_reducible first | exact HB.out | apply below_alloc | apply pw_below_drewN | apply below_drew1 | refine below_set ?_ GE114.out) | exact HB.out)⟩⟩
        · rw [if_neg c7] at H
          exact absurd H (by simp)
      · rw [if_neg c6] at H
        have c6b0 : decide (x12_1 < (l0.length : Int)) = false := decide_eq_false c6
        clear c6
        obtain rfl := Option.some.inj H
        go_wp2
        go_ret
        exact ⟨by first | rfl | (simp [errW_none, errW_some] <;> rfl) | (simp [*, errW_none, errW_some] <;> rfl), by repeat (first | (with_reducible first | exact HB.out | apply below_alloc | apply pw_below_drewN | apply below_drew1) | exact HB.out)⟩

end Go.Proofs.Ythljfcojmheopaa.PAll
