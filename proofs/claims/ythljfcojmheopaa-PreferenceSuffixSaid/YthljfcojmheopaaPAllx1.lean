-- PRINTED by a session's own changed print
import Derived.Test.YthljfcojmheopaaPAllx0
namespace Go.Proofs.Ythljfcojmheopaa.PAll
open Go.RowKit Go.Proofs.YthljfcojmheopaaW.PrintWords Go.Proofs.YthljfcojmheopaaW.PrintLast Go.Proofs.YthljfcojmheopaaW.PrintMore
attribute [local go_sem] max2_int min2_int max_two min_two max_three min_three max_four min_four   -- for this text's walks alone
set_option linter.unusedVariables false
set_option linter.unusedSimpArgs false

/-! ### preference_Exposure: function 11 -/
mutual
def preference_Exposure.l0 : Nat → Int → Int → Int → Int → Int → List (S30) → Int → Int → Option (Int)
  | 0, _, _, _, _, _, _, _, _ => none
  | k + 1, x1, x2, x3, x4, x11, x17, x18, x19 => if x19 < x18 then (if 0 ≤ x19 then (if x19 < (x17.length : Int) then (if ((rd_T30 x17 x19).f0) < x3 then (preference_Exposure.j1 k x1 x2 x3 x4 x11 x17 x18 x19 true ((rd_T30 x17 x19).f0) ((rd_T30 x17 x19).f1) ((rd_T30 x17 x19).f2) ((rd_T30 x17 x19).f3) ((rd_T30 x17 x19).f4) ((rd_T30 x17 x19).f5)) else (preference_Exposure.j1 k x1 x2 x3 x4 x11 x17 x18 x19 (decide (((rd_T30 x17 x19).f0) > x4)) ((rd_T30 x17 x19).f0) ((rd_T30 x17 x19).f1) ((rd_T30 x17 x19).f2) ((rd_T30 x17 x19).f3) ((rd_T30 x17 x19).f4) ((rd_T30 x17 x19).f5))) else (none)) else (none)) else (some x11)
def preference_Exposure.j1 : Nat → Int → Int → Int → Int → Int → List (S30) → Int → Int → Bool → Int → Int → Int → Int → Int → Int → Option (Int)
  | 0, _, _, _, _, _, _, _, _, _, _, _, _, _, _, _ => none
  | k + 1, x1, x2, x3, x4, x11, x17, x18, x19, x32, x103000, x103001, x103002, x103003, x103004, x103005 => if x32 = true then (preference_Exposure.l0 k x1 x2 x3 x4 x11 x17 x18 (wrap64 (x19 + 1))) else (if x103001 = 1 then (if x103002 = x1 then (preference_Exposure.j2 k x1 x2 x3 x4 x11 x17 x18 x19 (x103003 == x2) x103000 x103001 x103002 x103003 x103004 x103005) else (preference_Exposure.j2 k x1 x2 x3 x4 x11 x17 x18 x19 false x103000 x103001 x103002 x103003 x103004 x103005)) else (preference_Exposure.j2 k x1 x2 x3 x4 x11 x17 x18 x19 false x103000 x103001 x103002 x103003 x103004 x103005))
def preference_Exposure.j2 : Nat → Int → Int → Int → Int → Int → List (S30) → Int → Int → Bool → Int → Int → Int → Int → Int → Int → Option (Int)
  | 0, _, _, _, _, _, _, _, _, _, _, _, _, _, _, _ => none
  | k + 1, x1, x2, x3, x4, x11, x17, x18, x19, x33, x103000, x103001, x103002, x103003, x103004, x103005 => if x33 = true then (preference_Exposure.l0 k x1 x2 x3 x4 (wrap64 (x11 + x103004)) x17 x18 (wrap64 (x19 + 1))) else (if x103001 = 1 then (if x103002 = x2 then (if x103003 = x1 then (preference_Exposure.l0 k x1 x2 x3 x4 (mx (wrap64 (x11 - x103004)) 0) x17 x18 (wrap64 (x19 + 1))) else (preference_Exposure.l0 k x1 x2 x3 x4 x11 x17 x18 (wrap64 (x19 + 1)))) else (preference_Exposure.l0 k x1 x2 x3 x4 x11 x17 x18 (wrap64 (x19 + 1)))) else (if x103001 = 2 then (if x103002 = x2 then (if x103003 = x1 then (preference_Exposure.l0 k x1 x2 x3 x4 (mx (wrap64 (x11 - x103004)) 0) x17 x18 (wrap64 (x19 + 1))) else (preference_Exposure.l0 k x1 x2 x3 x4 x11 x17 x18 (wrap64 (x19 + 1)))) else (preference_Exposure.l0 k x1 x2 x3 x4 x11 x17 x18 (wrap64 (x19 + 1)))) else (preference_Exposure.l0 k x1 x2 x3 x4 x11 x17 x18 (wrap64 (x19 + 1)))))
end
def preference_Exposure.f (k : Nat) (l0 : List (S30)) (a1 : Int) (a2 : Int) (a3 : Int) (a4 : Int) : Option (Int) := if a1 = a2 then (some 0) else (preference_Exposure.l0 k a1 a2 a3 a4 0 l0 (l0.length : Int) 0)
theorem preference_Exposure.mono_l : ∀ k, (∀ y0 y1 y2 y3 y4 y5 y6 y7, LeO (preference_Exposure.l0 k y0 y1 y2 y3 y4 y5 y6 y7) (preference_Exposure.l0 (k + 1) y0 y1 y2 y3 y4 y5 y6 y7)) ∧ (∀ y0 y1 y2 y3 y4 y5 y6 y7 y8 y9 y10 y11 y12 y13 y14, LeO (preference_Exposure.j1 k y0 y1 y2 y3 y4 y5 y6 y7 y8 y9 y10 y11 y12 y13 y14) (preference_Exposure.j1 (k + 1) y0 y1 y2 y3 y4 y5 y6 y7 y8 y9 y10 y11 y12 y13 y14)) ∧ (∀ y0 y1 y2 y3 y4 y5 y6 y7 y8 y9 y10 y11 y12 y13 y14, LeO (preference_Exposure.j2 k y0 y1 y2 y3 y4 y5 y6 y7 y8 y9 y10 y11 y12 y13 y14) (preference_Exposure.j2 (k + 1) y0 y1 y2 y3 y4 y5 y6 y7 y8 y9 y10 y11 y12 y13 y14))
  | 0 => ⟨fun _ _ _ _ _ _ _ _ r h => by simp [preference_Exposure.l0] at h, fun _ _ _ _ _ _ _ _ _ _ _ _ _ _ _ r h => by simp [preference_Exposure.j1] at h, fun _ _ _ _ _ _ _ _ _ _ _ _ _ _ _ r h => by simp [preference_Exposure.j2] at h⟩
  | k + 1 => by
    obtain ⟨ih0, ih1, ih2⟩ := preference_Exposure.mono_l k
    refine ⟨?_, ?_, ?_⟩
    · intro y0 y1 y2 y3 y4 y5 y6 y7
      unfold preference_Exposure.l0
      repeat' first
      | (with_reducible exact ih0 _ _ _ _ _ _ _ _)
      | (with_reducible exact ih1 _ _ _ _ _ _ _ _ _ _ _ _ _ _ _)
      | (with_reducible exact ih2 _ _ _ _ _ _ _ _ _ _ _ _ _ _ _)
      | (with_reducible exact LeO.refl _)
      | (with_reducible exact LeO.none _)
      | (with_reducible refine LeO.ite ?_ ?_)
      | (with_reducible refine LeO.bind ?_ (fun _ => ?_))
      | exact ih0 _ _ _ _ _ _ _ _
      | exact ih1 _ _ _ _ _ _ _ _ _ _ _ _ _ _ _
      | exact ih2 _ _ _ _ _ _ _ _ _ _ _ _ _ _ _
      | exact LeO.none _
      | refine LeO.ite ?_ ?_
      | refine LeO.bind ?_ (fun _ => ?_)
    · intro y0 y1 y2 y3 y4 y5 y6 y7 y8 y9 y10 y11 y12 y13 y14
      unfold preference_Exposure.j1
      repeat' first
      | (with_reducible exact ih0 _ _ _ _ _ _ _ _)
      | (with_reducible exact ih1 _ _ _ _ _ _ _ _ _ _ _ _ _ _ _)
      | (with_reducible exact ih2 _ _ _ _ _ _ _ _ _ _ _ _ _ _ _)
      | (with_reducible exact LeO.refl _)
      | (with_reducible exact LeO.none _)
      | (with_reducible refine LeO.ite ?_ ?_)
      | (with_reducible refine LeO.bind ?_ (fun _ => ?_))
      | exact ih0 _ _ _ _ _ _ _ _
      | exact ih1 _ _ _ _ _ _ _ _ _ _ _ _ _ _ _
      | exact ih2 _ _ _ _ _ _ _ _ _ _ _ _ _ _ _
      | exact LeO.none _
      | refine LeO.ite ?_ ?_
      | refine LeO.bind ?_ (fun _ => ?_)
    · intro y0 y1 y2 y3 y4 y5 y6 y7 y8 y9 y10 y11 y12 y13 y14
      unfold preference_Exposure.j2
      repeat' first
      | (with_reducible exact ih0 _ _ _ _ _ _ _ _)
      | (with_reducible exact ih1 _ _ _ _ _ _ _ _ _ _ _ _ _ _ _)
      | (with_reducible exact ih2 _ _ _ _ _ _ _ _ _ _ _ _ _ _ _)
      | (with_reducible exact LeO.refl _)
      | (with_reducible exact LeO.none _)
      | (with_reducible refine LeO.ite ?_ ?_)
      | (with_reducible refine LeO.bind ?_ (fun _ => ?_))
      | exact ih0 _ _ _ _ _ _ _ _
      | exact ih1 _ _ _ _ _ _ _ _ _ _ _ _ _ _ _
      | exact ih2 _ _ _ _ _ _ _ _ _ _ _ _ _ _ _
      | exact LeO.none _
      | refine LeO.ite ?_ ?_
      | refine LeO.bind ?_ (fun _ => ?_)
theorem preference_Exposure.mono : ∀ a0 a1 a2 a3 a4 k, LeO (preference_Exposure.f k a0 a1 a2 a3 a4) (preference_Exposure.f (k + 1) a0 a1 a2 a3 a4) := by
  intro a0 a1 a2 a3 a4 k
  obtain ⟨ih0, ih1, ih2⟩ := preference_Exposure.mono_l k
  unfold preference_Exposure.f
  repeat' first
      | (with_reducible exact ih0 _ _ _ _ _ _ _ _)
      | (with_reducible exact ih1 _ _ _ _ _ _ _ _ _ _ _ _ _ _ _)
      | (with_reducible exact ih2 _ _ _ _ _ _ _ _ _ _ _ _ _ _ _)
      | (with_reducible exact LeO.refl _)
      | (with_reducible exact LeO.none _)
      | (with_reducible refine LeO.ite ?_ ?_)
      | (with_reducible refine LeO.bind ?_ (fun _ => ?_))
      | exact ih0 _ _ _ _ _ _ _ _
      | exact ih1 _ _ _ _ _ _ _ _ _ _ _ _ _ _ _
      | exact ih2 _ _ _ _ _ _ _ _ _ _ _ _ _ _ _
      | exact LeO.none _
      | refine LeO.ite ?_ ?_
      | refine LeO.bind ?_ (fun _ => ?_)
set_option maxHeartbeats 8000000 in
set_option maxRecDepth 100000 in
theorem preference_Exposure.calls (k : Nat) (A0 : Option Addr) (c0 : Nat) (l0 : List (S30)) (a1 : Int) (a2 : Int) (a3 : Int) (a4 : Int) (r : Int) (w : World) (hr0 : Kd.C k30 w A0 l0.length l0) (hc0 : l0.length ≤ c0) (h : preference_Exposure.f k l0 a1 a2 a3 a4 = some r) :
    Calls Try.prog 11 #[.slice A0 l0.length c0, .int .i64 a1, .int .i64 a2, .int .i64 a3, .int .i64 a4] w fun e w' => e = .returned (.int .i64 r) ∧ Below w.heap.size w w' := by
  have hu30 := Try.underlying30
  have HR0 := Aside0.mk hr0
  have HC0 := Aside0.mk hc0
  clear hr0 hc0
  have HB := Aside0.mk (Below.refl w.heap.size w)
  have H : (if a1 = a2 then (some 0) else (preference_Exposure.l0 k a1 a2 a3 a4 0 l0 (l0.length : Int) 0)) = some r := h
  clear h
  by_cases c6 : a1 = a2
  · rw [if_pos c6] at H
    have c6b0 : (a1 == a2) = true := beq_iff_eq.mpr c6
    have c6b1 : (a1 != a2) = false := bne_eq_false_iff_eq.mpr c6
    clear c6
    obtain rfl := Option.some.inj H
    go_enter Try.func11, Try.ntmps11
    go_wp2
    go_ret
    exact ⟨by first | rfl | (simp [errW_none, errW_some] <;> rfl) | (simp [*, errW_none, errW_some] <;> rfl), by repeat (first | (with_reducible first | exact HB.out | apply below_alloc | apply pw_below_drewN | apply below_drew1) | exact HB.out)⟩
  · rw [if_neg c6] at H
    have c6b0 : (a1 == a2) = false := beq_eq_false_iff_ne.mpr c6
    have c6b1 : (a1 != a2) = true := bne_iff_ne.mpr c6
    have H' := Aside0.mk H
    clear H
    go_enter Try.func11, Try.ntmps11
    go_wp2
    go_loopg [11, 19] k (fun kq v11 v19 w' => ∃ (x11_1 : Int) (x19_1 : Int), v11 = .int .i64 x11_1 ∧ v19 = .int .i64 x19_1 ∧ Aside0 (preference_Exposure.l0 kq a1 a2 a3 a4 x11_1 l0 (l0.length : Int) x19_1 = some r) ∧ Aside0 (kq ≤ k) ∧ Aside0 (Below w.heap.size w w'))
    case atStart => exact ⟨(0), (0), (by first | rfl | (simp; done) | (simp [*]; done)), (by first | rfl | (simp; done) | (simp [*]; done)), H', ⟨Nat.le_refl _⟩, ⟨by repeat (first | (with_reducible first | exact HB.out | apply below_alloc | apply pw_below_drewN | apply below_drew1) | exact HB.out)⟩⟩
    case round =>
      clear H'
      try clear c1
      try clear p2
      try clear c6
      try clear c6b0
      try clear c6b1
      obtain ⟨x11_1, x19_1, rfl, rfl, HA, HK1, HB⟩ := hrel
      cases gk with
      | zero => exact absurd HA.out (by simp [preference_Exposure.l0])
      | succ k1 =>
        have H := HA.out
        clear HA
        simp only [preference_Exposure.l0] at H
        by_cases c7 : x19_1 < (l0.length : Int)
        · rw [if_pos c7] at H
          have c7b0 : decide (x19_1 < (l0.length : Int)) = true := decide_eq_true c7
          clear c7
          by_cases c8 : 0 ≤ x19_1
          · rw [if_pos c8] at H
            have c8b0 : decide (0 ≤ x19_1) = true := decide_eq_true c8
            clear c8
            by_cases c9 : x19_1 < (l0.length : Int)
            · rw [if_pos c9] at H
              have c9b0 : decide (x19_1 < (l0.length : Int)) = true := decide_eq_true c9
              clear c9
              have HC10 := Aside0.mk H
              clear H
              have p101 : 0 ≤ (x19_1 : Int) := of_decide_eq_true (by first | (with_reducible assumption) | assumption)
              have q101 : x19_1 < (l0.length : Int) := of_decide_eq_true (by first | (with_reducible assumption) | assumption)
              obtain ⟨ad101, e101, hx101_0, hx101_1, hx101_2, hx101_3, hx101_4, hx101_5⟩ := at_T30 HR0.out x19_1 p101 q101
              cases e101
              replace hx101_0 := (HB.out.cell (World.block_lt_of_cell? w _ hx101_0)).trans hx101_0
              replace hx101_1 := (HB.out.cell (World.block_lt_of_cell? w _ hx101_1)).trans hx101_1
              replace hx101_2 := (HB.out.cell (World.block_lt_of_cell? w _ hx101_2)).trans hx101_2
              replace hx101_3 := (HB.out.cell (World.block_lt_of_cell? w _ hx101_3)).trans hx101_3
              replace hx101_4 := (HB.out.cell (World.block_lt_of_cell? w _ hx101_4)).trans hx101_4
              replace hx101_5 := (HB.out.cell (World.block_lt_of_cell? w _ hx101_5)).trans hx101_5
              replace p101 := eq_true p101
              replace q101 := eq_true q101
              go_upto_region 7 with (first | ((with_reducible refine gate_dst (N := 13) rfl ?_); refine box_event ?hg (N := 13) ?hd (cs := #[.int .i64 0, .int .i64 0, .int .i64 0, .int .i64 0, .int .i64 0, .int .i64 0]) (t := 30) ?hr ?_; (case hd => rfl); (case hg => rfl); (case hr => first | (go_simp; done) | (go_simp; rfl)); intro gb102 hg w11 hbox hb; have n0_ := Aside0.mk (below_step (by repeat (first | (with_reducible first | exact HB.out | apply below_alloc | apply pw_below_drewN | apply below_drew1) | exact HB.out)) hb); have n1_ := Aside0.mk (hbox); have n2_ := Aside0.mk ((by rw [hg]; exact (below_size (by repeat (first | (with_reducible first | exact HB.out | apply below_alloc | apply pw_below_drewN | apply below_drew1) | exact HB.out))) : w.heap.size ≤ gb102)); have n3_ := Aside0.mk ((by rw [hg]; exact (below_size (by repeat (first | (with_reducible first | exact HB.out | apply below_alloc | apply pw_below_drewN | apply below_drew1) | exact HB.out))) : w.heap.size ≤ gb102)); clear HB; have HB := n0_; have BK102 := n1_; have GW102 := n2_; have GE102 := n3_; clear n0_ n1_ n2_ n3_; clear hb hbox hg; have hcz12_0 : w11.cell? ⟨gb102, 0, none⟩ = some (.int .i64 0) := (blk_cell BK102.out 0).trans rfl; have hcz12_1 : w11.cell? ⟨gb102, 1, none⟩ = some (.int .i64 0) := (blk_cell BK102.out 1).trans rfl; have hcz12_2 : w11.cell? ⟨gb102, 2, none⟩ = some (.int .i64 0) := (blk_cell BK102.out 2).trans rfl; have hcz12_3 : w11.cell? ⟨gb102, 3, none⟩ = some (.int .i64 0) := (blk_cell BK102.out 3).trans rfl; have hcz12_4 : w11.cell? ⟨gb102, 4, none⟩ = some (.int .i64 0) := (blk_cell BK102.out 4).trans rfl; have hcz12_5 : w11.cell? ⟨gb102, 5, none⟩ = some (.int .i64 0) := (blk_cell BK102.out 5).trans rfl; have hfz12_0 := blk_frozen BK102.out 0; have hfz12_1 := blk_frozen BK102.out 1; have hfz12_2 := blk_frozen BK102.out 2; have hfz12_3 := blk_frozen BK102.out 3; have hfz12_4 := blk_frozen BK102.out 4; have hfz12_5 := blk_frozen BK102.out 5))
              (try simp only [Act.put, List.setIfInBounds_toArray, List.set_cons_zero, List.set_cons_succ])
              go_cut [32] (fun v32 wc => ∃ (kq : Nat) (x32_9 : Bool), v32 = .bool x32_9 ∧ Aside0 (preference_Exposure.j1 kq a1 a2 a3 a4 x11_1 l0 (l0.length : Int) x19_1 x32_9 ((rd_T30 l0 x19_1).f0) ((rd_T30 l0 x19_1).f1) ((rd_T30 l0 x19_1).f2) ((rd_T30 l0 x19_1).f3) ((rd_T30 l0 x19_1).f4) ((rd_T30 l0 x19_1).f5) = some r) ∧ Aside0 (kq ≤ k1) ∧ Aside0 (wc.heap[gb102]? = some (.cells #[.int .i64 ((rd_T30 l0 x19_1).f0), .int .i64 ((rd_T30 l0 x19_1).f1), .int .i64 ((rd_T30 l0 x19_1).f2), .int .i64 ((rd_T30 l0 x19_1).f3), .int .i64 ((rd_T30 l0 x19_1).f4), .int .i64 ((rd_T30 l0 x19_1).f5)] 30 (0, 0))) ∧ Aside0 (Below w.heap.size w wc))
              case first =>
                have H := HC10.out
                clear HC10
                by_cases c13 : ((rd_T30 l0 x19_1).f0) < a3
                · rw [if_pos c13] at H
                  have c13b0 : decide (((rd_T30 l0 x19_1).f0) < a3) = true := decide_eq_true c13
                  clear c13
                  (first | rw [c13b0] | (simp only [i64_w, i32_w]; rw [c13b0]) | skip)
                  have H' := Aside0.mk H
                  clear H
                  have hcz14_0 : w11.cell? ⟨gb102, 0, none⟩ = some (.int .i64 0) := (blk_cell BK102.out 0).trans rfl
                  have hcz14_1 : w11.cell? ⟨gb102, 1, none⟩ = some (.int .i64 0) := (blk_cell BK102.out 1).trans rfl
                  have hcz14_2 : w11.cell? ⟨gb102, 2, none⟩ = some (.int .i64 0) := (blk_cell BK102.out 2).trans rfl
                  have hcz14_3 : w11.cell? ⟨gb102, 3, none⟩ = some (.int .i64 0) := (blk_cell BK102.out 3).trans rfl
                  have hcz14_4 : w11.cell? ⟨gb102, 4, none⟩ = some (.int .i64 0) := (blk_cell BK102.out 4).trans rfl
                  have hcz14_5 : w11.cell? ⟨gb102, 5, none⟩ = some (.int .i64 0) := (blk_cell BK102.out 5).trans rfl
                  have hfz14_0 := blk_frozen BK102.out 0
                  have hfz14_1 := blk_frozen BK102.out 1
                  have hfz14_2 := blk_frozen BK102.out 2
                  have hfz14_3 := blk_frozen BK102.out 3
                  have hfz14_4 := blk_frozen BK102.out 4
                  have hfz14_5 := blk_frozen BK102.out 5
                  go_wp2
                  go_meet
                  case rel => exact ⟨_, (true), (by first | rfl | (simp; done) | (simp [*]; done)), H', ⟨by have := HK1.out; first | omega | exact Nat.le_refl _⟩, ⟨by (with_reducible repeat (first | refine blk_drewN ?_ _ | refine blk_drew ?_ | refine blk_alloc ?_ _)); refine blk_put (cs := #[.int .i64 ((rd_T30 l0 x19_1).f0), .int .i64 ((rd_T30 l0 x19_1).f1), .int .i64 ((rd_T30 l0 x19_1).f2), .int .i64 ((rd_T30 l0 x19_1).f3), .int .i64 ((rd_T30 l0 x19_1).f4), .int .i64 0]) ?_ 5 _ rfl; (with_reducible repeat (first | refine blk_drewN ?_ _ | refine blk_drew ?_ | refine blk_alloc ?_ _)); refine blk_put (cs := #[.int .i64 ((rd_T30 l0 x19_1).f0), .int .i64 ((rd_T30 l0 x19_1).f1), .int .i64 ((rd_T30 l0 x19_1).f2), .int .i64 ((rd_T30 l0 x19_1).f3), .int .i64 0, .int .i64 0]) ?_ 4 _ rfl; (with_reducible repeat (first | refine blk_drewN ?_ _ | refine blk_drew ?_ | refine blk_alloc ?_ _)); refine blk_put (cs := #[.int .i64 ((rd_T30 l0 x19_1).f0), .int .i64 ((rd_T30 l0 x19_1).f1), .int .i64 ((rd_T30 l0 x19_1).f2), .int .i64 0, .int .i64 0, .int .i64 0]) ?_ 3 _ rfl; (with_reducible repeat (first | refine blk_drewN ?_ _ | refine blk_drew ?_ | refine blk_alloc ?_ _)); refine blk_put (cs := #[.int .i64 ((rd_T30 l0 x19_1).f0), .int .i64 ((rd_T30 l0 x19_1).f1), .int .i64 0, .int .i64 0, .int .i64 0, .int .i64 0]) ?_ 2 _ rfl; (with_reducible repeat (first | refine blk_drewN ?_ _ | refine blk_drew ?_ | refine blk_alloc ?_ _)); refine blk_put (cs := #[.int .i64 ((rd_T30 l0 x19_1).f0), .int .i64 0, .int .i64 0, .int .i64 0, .int .i64 0, .int .i64 0]) ?_ 1 _ rfl; (with_reducible repeat (first | refine blk_drewN ?_ _ | refine blk_drew ?_ | refine blk_alloc ?_ _)); refine blk_put (cs := #[.int .i64 0, .int .i64 0, .int .i64 0, .int .i64 0, .int .i64 0, .int .i64 0]) ?_ 0 _ rfl; (with_reducible repeat (first | refine blk_drewN ?_ _ | refine blk_drew ?_ | refine blk_alloc ?_ _)); exact BK102.out⟩, ⟨by repeat (first | (with_reducible first | exact HB.out | apply below_alloc | apply pw_below_drewN | apply below_drew1 | refine below_set ?_ GE102.out) | exact HB.out)⟩⟩
                · rw [if_neg c13] at H
                  have c13b0 : decide (((rd_T30 l0 x19_1).f0) < a3) = false := decide_eq_false c13
                  clear c13
                  (first | rw [c13b0] | (simp only [i64_w, i32_w]; rw [c13b0]) | skip)
                  have H' := Aside0.mk H
                  clear H
                  have hcz15_0 : w11.cell? ⟨gb102, 0, none⟩ = some (.int .i64 0) := (blk_cell BK102.out 0).trans rfl
                  have hcz15_1 : w11.cell? ⟨gb102, 1, none⟩ = some (.int .i64 0) := (blk_cell BK102.out 1).trans rfl
                  have hcz15_2 : w11.cell? ⟨gb102, 2, none⟩ = some (.int .i64 0) := (blk_cell BK102.out 2).trans rfl
                  have hcz15_3 : w11.cell? ⟨gb102, 3, none⟩ = some (.int .i64 0) := (blk_cell BK102.out 3).trans rfl
                  have hcz15_4 : w11.cell? ⟨gb102, 4, none⟩ = some (.int .i64 0) := (blk_cell BK102.out 4).trans rfl
                  have hcz15_5 : w11.cell? ⟨gb102, 5, none⟩ = some (.int .i64 0) := (blk_cell BK102.out 5).trans rfl
                  have hfz15_0 := blk_frozen BK102.out 0
                  have hfz15_1 := blk_frozen BK102.out 1
                  have hfz15_2 := blk_frozen BK102.out 2
                  have hfz15_3 := blk_frozen BK102.out 3
                  have hfz15_4 := blk_frozen BK102.out 4
                  have hfz15_5 := blk_frozen BK102.out 5
                  go_wp2
                  go_meet
                  case rel => exact ⟨_, (decide (((rd_T30 l0 x19_1).f0) > a4)), (by first | rfl | (simp; done) | (simp [*]; done)), H', ⟨by have := HK1.out; first | omega | exact Nat.le_refl _⟩, ⟨by (with_reducible repeat (first | refine blk_drewN ?_ _ | refine blk_drew ?_ | refine blk_alloc ?_ _)); refine blk_put (cs := #[.int .i64 ((rd_T30 l0 x19_1).f0), .int .i64 ((rd_T30 l0 x19_1).f1), .int .i64 ((rd_T30 l0 x19_1).f2), .int .i64 ((rd_T30 l0 x19_1).f3), .int .i64 ((rd_T30 l0 x19_1).f4), .int .i64 0]) ?_ 5 _ rfl; (with_reducible repeat (first | refine blk_drewN ?_ _ | refine blk_drew ?_ | refine blk_alloc ?_ _)); refine blk_put (cs := #[.int .i64 ((rd_T30 l0 x19_1).f0), .int .i64 ((rd_T30 l0 x19_1).f1), .int .i64 ((rd_T30 l0 x19_1).f2), .int .i64 ((rd_T30 l0 x19_1).f3), .int .i64 0, .int .i64 0]) ?_ 4 _ rfl; (with_reducible repeat (first | refine blk_drewN ?_ _ | refine blk_drew ?_ | refine blk_alloc ?_ _)); refine blk_put (cs := #[.int .i64 ((rd_T30 l0 x19_1).f0), .int .i64 ((rd_T30 l0 x19_1).f1), .int .i64 ((rd_T30 l0 x19_1).f2), .int .i64 0, .int .i64 0, .int .i64 0]) ?_ 3 _ rfl; (with_reducible repeat (first | refine blk_drewN ?_ _ | refine blk_drew ?_ | refine blk_alloc ?_ _)); refine blk_put (cs := #[.int .i64 ((rd_T30 l0 x19_1).f0), .int .i64 ((rd_T30 l0 x19_1).f1), .int .i64 0, .int .i64 0, .int .i64 0, .int .i64 0]) ?_ 2 _ rfl; (with_reducible repeat (first | refine blk_drewN ?_ _ | refine blk_drew ?_ | refine blk_alloc ?_ _)); refine blk_put (cs := #[.int .i64 ((rd_T30 l0 x19_1).f0), .int .i64 0, .int .i64 0, .int .i64 0, .int .i64 0, .int .i64 0]) ?_ 1 _ rfl; (with_reducible repeat (first | refine blk_drewN ?_ _ | refine blk_drew ?_ | refine blk_alloc ?_ _)); refine blk_put (cs := #[.int .i64 0, .int .i64 0, .int .i64 0, .int .i64 0, .int .i64 0, .int .i64 0]) ?_ 0 _ rfl; (with_reducible repeat (first | refine blk_drewN ?_ _ | refine blk_drew ?_ | refine blk_alloc ?_ _)); exact BK102.out⟩, ⟨by repeat (first | (with_reducible first | exact HB.out | apply below_alloc | apply pw_below_drewN | apply below_drew1 | refine below_set ?_ GE102.out) | exact HB.out)⟩⟩
              case rest =>
                clear HC10
                try clear c1
                try clear p1
                try clear q1
                try clear hx1
                try clear p2
                try clear c6
                try clear c6b0
                try clear c6b1
                try clear c7
                try clear c7b0
                try clear c8
                try clear c8b0
                try clear c9
                try clear c9b0
                try clear p10
                try clear q10
                try clear hx10
                try clear c11
                try clear c13
                try clear c13b0
                try clear hcz12_0
                try clear hcz12_1
                try clear hcz12_2
                try clear hcz12_3
                try clear hcz12_4
                try clear hcz12_5
                try clear hcz14_0
                try clear hcz14_1
                try clear hcz14_2
                try clear hcz14_3
                try clear hcz14_4
                try clear hcz14_5
                try clear hcz15_0
                try clear hcz15_1
                try clear hcz15_2
                try clear hcz15_3
                try clear hcz15_4
                try clear hcz15_5
                try clear hfz12_0
                try clear hfz12_1
                try clear hfz12_2
                try clear hfz12_3
                try clear hfz12_4
                try clear hfz12_5
                try clear hfz14_0
                try clear hfz14_1
                try clear hfz14_2
                try clear hfz14_3
                try clear hfz14_4
                try clear hfz14_5
                try clear hfz15_0
                try clear hfz15_1
                try clear hfz15_2
                try clear hfz15_3
                try clear hfz15_4
                try clear hfz15_5
                try clear hx101_0
                try clear hx101_1
                try clear hx101_2
                try clear hx101_3
                try clear hx101_4
                try clear hx101_5
                try clear p101
                try clear p2
                try clear q101
                obtain ⟨kq, x32_9, rfl, HA, HJ9, BK102, HB⟩ := hcut
                cases kq with
                | zero => exact absurd HA.out (by simp [preference_Exposure.j1])
                | succ kj9 =>
                  have H := HA.out
                  clear HA
                  simp only [preference_Exposure.j1] at H
                  by_cases c16 : x32_9 = true
                  · subst c16
                    have H1 : (preference_Exposure.l0 kj9 a1 a2 a3 a4 x11_1 l0 (l0.length : Int) (wrap64 (x19_1 + 1))) = some r := by rw [if_pos rfl] at H; exact H
                    clear H
                    have H := H1
                    clear H1
                    have H' := Aside0.mk H
                    clear H
                    go_wp2
                    go_roundg kj9
                    case measure => have := HK1.out; have := HJ9.out; omega
                    case rel => exact ⟨(x11_1), (wrap64 (x19_1 + 1)), (by first | rfl | (simp; done) | (simp [*]; done)), (by first | rfl | (simp; done) | (simp [*]; done)), H', ⟨by have := HK1.out; have := HJ9.out; omega⟩, ⟨by repeat (first | (with_reducible first | exact HB.out | apply below_alloc | apply pw_below_drewN | apply below_drew1 | refine below_set ?_ GE102.out) | exact HB.out)⟩⟩
                  · replace c16 := Bool.eq_false_iff.mpr c16
                    subst c16
                    have H1 : (if ((rd_T30 l0 x19_1).f1) = 1 then (if ((rd_T30 l0 x19_1).f2) = a1 then (preference_Exposure.j2 kj9 a1 a2 a3 a4 x11_1 l0 (l0.length : Int) x19_1 (((rd_T30 l0 x19_1).f3) == a2) ((rd_T30 l0 x19_1).f0) ((rd_T30 l0 x19_1).f1) ((rd_T30 l0 x19_1).f2) ((rd_T30 l0 x19_1).f3) ((rd_T30 l0 x19_1).f4) ((rd_T30 l0 x19_1).f5)) else (preference_Exposure.j2 kj9 a1 a2 a3 a4 x11_1 l0 (l0.length : Int) x19_1 false ((rd_T30 l0 x19_1).f0) ((rd_T30 l0 x19_1).f1) ((rd_T30 l0 x19_1).f2) ((rd_T30 l0 x19_1).f3) ((rd_T30 l0 x19_1).f4) ((rd_T30 l0 x19_1).f5))) else (preference_Exposure.j2 kj9 a1 a2 a3 a4 x11_1 l0 (l0.length : Int) x19_1 false ((rd_T30 l0 x19_1).f0) ((rd_T30 l0 x19_1).f1) ((rd_T30 l0 x19_1).f2) ((rd_T30 l0 x19_1).f3) ((rd_T30 l0 x19_1).f4) ((rd_T30 l0 x19_1).f5))) = some r := by rw [if_neg (show ¬ (false = true) by decide)] at H; exact H
                    clear H
                    have H := H1
                    clear H1
                    have HC17 := Aside0.mk H
                    clear H
                    go_upto_region 8 with (fail)
                    go_cut [33] (fun v33 wc => ∃ (kq : Nat) (x33_16 : Bool), v33 = .bool x33_16 ∧ Aside0 (preference_Exposure.j2 kq a1 a2 a3 a4 x11_1 l0 (l0.length : Int) x19_1 x33_16 ((rd_T30 l0 x19_1).f0) ((rd_T30 l0 x19_1).f1) ((rd_T30 l0 x19_1).f2) ((rd_T30 l0 x19_1).f3) ((rd_T30 l0 x19_1).f4) ((rd_T30 l0 x19_1).f5) = some r) ∧ Aside0 (kq ≤ kj9) ∧ Aside0 (wc.heap[gb102]? = some (.cells #[.int .i64 ((rd_T30 l0 x19_1).f0), .int .i64 ((rd_T30 l0 x19_1).f1), .int .i64 ((rd_T30 l0 x19_1).f2), .int .i64 ((rd_T30 l0 x19_1).f3), .int .i64 ((rd_T30 l0 x19_1).f4), .int .i64 ((rd_T30 l0 x19_1).f5)] 30 (0, 0))) ∧ Aside0 (Below w.heap.size w wc))
                    case first =>
                      have H := HC17.out
                      clear HC17
                      by_cases c18 : ((rd_T30 l0 x19_1).f1) = 1
                      · rw [if_pos c18] at H
                        have c18b0 : (((rd_T30 l0 x19_1).f1) == 1) = true := beq_iff_eq.mpr c18
                        have c18b1 : (((rd_T30 l0 x19_1).f1) != 1) = false := bne_eq_false_iff_eq.mpr c18
                        clear c18
                        (first | rw [c18b0] | (simp only [i64_w, i32_w]; rw [c18b0]) | skip)
                        by_cases c19 : ((rd_T30 l0 x19_1).f2) = a1
                        · rw [if_pos c19] at H
                          have c19b0 : (((rd_T30 l0 x19_1).f2) == a1) = true := beq_iff_eq.mpr c19
                          have c19b1 : (((rd_T30 l0 x19_1).f2) != a1) = false := bne_eq_false_iff_eq.mpr c19
                          clear c19
                          have H' := Aside0.mk H
                          clear H
                          have hcz20_0 : wc.cell? ⟨gb102, 0, none⟩ = some (.int .i64 ((rd_T30 l0 x19_1).f0)) := (blk_cell BK102.out 0).trans rfl
                          have hcz20_1 : wc.cell? ⟨gb102, 1, none⟩ = some (.int .i64 ((rd_T30 l0 x19_1).f1)) := (blk_cell BK102.out 1).trans rfl
                          have hcz20_2 : wc.cell? ⟨gb102, 2, none⟩ = some (.int .i64 ((rd_T30 l0 x19_1).f2)) := (blk_cell BK102.out 2).trans rfl
                          have hcz20_3 : wc.cell? ⟨gb102, 3, none⟩ = some (.int .i64 ((rd_T30 l0 x19_1).f3)) := (blk_cell BK102.out 3).trans rfl
                          have hcz20_4 : wc.cell? ⟨gb102, 4, none⟩ = some (.int .i64 ((rd_T30 l0 x19_1).f4)) := (blk_cell BK102.out 4).trans rfl
                          have hcz20_5 : wc.cell? ⟨gb102, 5, none⟩ = some (.int .i64 ((rd_T30 l0 x19_1).f5)) := (blk_cell BK102.out 5).trans rfl
                          have hfz20_0 := blk_frozen BK102.out 0
                          have hfz20_1 := blk_frozen BK102.out 1
                          have hfz20_2 := blk_frozen BK102.out 2
                          have hfz20_3 := blk_frozen BK102.out 3
                          have hfz20_4 := blk_frozen BK102.out 4
                          have hfz20_5 := blk_frozen BK102.out 5
                          go_wp2
                          go_meet
                          case rel => exact ⟨_, ((((rd_T30 l0 x19_1).f3) == a2)), (by first | rfl | (simp; done) | (simp [*]; done)), H', ⟨by have := HK1.out; have := HJ9.out; first | omega | exact Nat.le_refl _⟩, ⟨by (with_reducible repeat (first | refine blk_drewN ?_ _ | refine blk_drew ?_ | refine blk_alloc ?_ _)); exact BK102.out⟩, ⟨by repeat (first | (with_reducible first | exact HB.out | apply below_alloc | apply pw_below_drewN | apply below_drew1 | refine below_set ?_ GE102.out) | exact HB.out)⟩⟩
                        · rw [if_neg c19] at H
                          have c19b0 : (((rd_T30 l0 x19_1).f2) == a1) = false := beq_eq_false_iff_ne.mpr c19
                          have c19b1 : (((rd_T30 l0 x19_1).f2) != a1) = true := bne_iff_ne.mpr c19
                          have H' := Aside0.mk H
                          clear H
                          have hcz21_0 : wc.cell? ⟨gb102, 0, none⟩ = some (.int .i64 ((rd_T30 l0 x19_1).f0)) := (blk_cell BK102.out 0).trans rfl
                          have hcz21_1 : wc.cell? ⟨gb102, 1, none⟩ = some (.int .i64 ((rd_T30 l0 x19_1).f1)) := (blk_cell BK102.out 1).trans rfl
                          have hcz21_2 : wc.cell? ⟨gb102, 2, none⟩ = some (.int .i64 ((rd_T30 l0 x19_1).f2)) := (blk_cell BK102.out 2).trans rfl
                          have hcz21_3 : wc.cell? ⟨gb102, 3, none⟩ = some (.int .i64 ((rd_T30 l0 x19_1).f3)) := (blk_cell BK102.out 3).trans rfl
                          have hcz21_4 : wc.cell? ⟨gb102, 4, none⟩ = some (.int .i64 ((rd_T30 l0 x19_1).f4)) := (blk_cell BK102.out 4).trans rfl
                          have hcz21_5 : wc.cell? ⟨gb102, 5, none⟩ = some (.int .i64 ((rd_T30 l0 x19_1).f5)) := (blk_cell BK102.out 5).trans rfl
                          have hfz21_0 := blk_frozen BK102.out 0
                          have hfz21_1 := blk_frozen BK102.out 1
                          have hfz21_2 := blk_frozen BK102.out 2
                          have hfz21_3 := blk_frozen BK102.out 3
                          have hfz21_4 := blk_frozen BK102.out 4
                          have hfz21_5 := blk_frozen BK102.out 5
                          go_wp2
                          go_meet
                          case rel => exact ⟨_, (false), (by first | rfl | (simp; done) | (simp [*]; done)), H', ⟨by have := HK1.out; have := HJ9.out; first | omega | exact Nat.le_refl _⟩, ⟨by (with_reducible repeat (first | refine blk_drewN ?_ _ | refine blk_drew ?_ | refine blk_alloc ?_ _)); exact BK102.out⟩, ⟨by repeat (first | (with_reducible first | exact HB.out | apply below_alloc | apply pw_below_drewN | apply below_drew1 | refine below_set ?_ GE102.out) | exact HB.out)⟩⟩
                      · rw [if_neg c18] at H
                        have c18b0 : (((rd_T30 l0 x19_1).f1) == 1) = false := beq_eq_false_iff_ne.mpr c18
                        have c18b1 : (((rd_T30 l0 x19_1).f1) != 1) = true := bne_iff_ne.mpr c18
                        (first | rw [c18b0] | (simp only [i64_w, i32_w]; rw [c18b0]) | skip)
                        have H' := Aside0.mk H
                        clear H
                        have hcz22_0 : wc.cell? ⟨gb102, 0, none⟩ = some (.int .i64 ((rd_T30 l0 x19_1).f0)) := (blk_cell BK102.out 0).trans rfl
                        have hcz22_1 : wc.cell? ⟨gb102, 1, none⟩ = some (.int .i64 ((rd_T30 l0 x19_1).f1)) := (blk_cell BK102.out 1).trans rfl
                        have hcz22_2 : wc.cell? ⟨gb102, 2, none⟩ = some (.int .i64 ((rd_T30 l0 x19_1).f2)) := (blk_cell BK102.out 2).trans rfl
                        have hcz22_3 : wc.cell? ⟨gb102, 3, none⟩ = some (.int .i64 ((rd_T30 l0 x19_1).f3)) := (blk_cell BK102.out 3).trans rfl
                        have hcz22_4 : wc.cell? ⟨gb102, 4, none⟩ = some (.int .i64 ((rd_T30 l0 x19_1).f4)) := (blk_cell BK102.out 4).trans rfl
                        have hcz22_5 : wc.cell? ⟨gb102, 5, none⟩ = some (.int .i64 ((rd_T30 l0 x19_1).f5)) := (blk_cell BK102.out 5).trans rfl
                        have hfz22_0 := blk_frozen BK102.out 0
                        have hfz22_1 := blk_frozen BK102.out 1
                        have hfz22_2 := blk_frozen BK102.out 2
                        have hfz22_3 := blk_frozen BK102.out 3
                        have hfz22_4 := blk_frozen BK102.out 4
                        have hfz22_5 := blk_frozen BK102.out 5
                        go_wp2
                        go_meet
                        case rel => exact ⟨_, (false), (by first | rfl | (simp; done) | (simp [*]; done)), H', ⟨by have := HK1.out; have := HJ9.out; first | omega | exact Nat.le_refl _⟩, ⟨by (with_reducible repeat (first | refine blk_drewN ?_ _ | refine blk_drew ?_ | refine blk_alloc ?_ _)); exact BK102.out⟩, ⟨by repeat (first | (with_reducible first | exact HB.out | apply below_alloc | apply pw_below_drewN | apply below_drew1 | refine below_set ?_ GE102.out) | exact HB.out)⟩⟩
                    case rest =>
                      clear HC17
                      try clear c1
                      try clear p1
                      try clear q1
                      try clear hx1
                      try clear p2
                      try clear c6
                      try clear c6b0
                      try clear c6b1
                      try clear p6
                      try clear c7
                      try clear c7b0
                      try clear c8
                      try clear c8b0
                      try clear c9
                      try clear c9b0
                      try clear p10
                      try clear q10
                      try clear hx10
                      try clear c11
                      try clear c13
                      try clear c13b0
                      try clear c16
                      try clear c18
                      try clear c18b0
                      try clear c18b1
                      try clear c19
                      try clear c19b0
                      try clear c19b1
                      try clear hcz12_0
                      try clear hcz12_1
                      try clear hcz12_2
                      try clear hcz12_3
                      try clear hcz12_4
                      try clear hcz12_5
                      try clear hcz14_0
                      try clear hcz14_1
                      try clear hcz14_2
                      try clear hcz14_3
                      try clear hcz14_4
                      try clear hcz14_5
                      try clear hcz15_0
                      try clear hcz15_1
                      try clear hcz15_2
                      try clear hcz15_3
                      try clear hcz15_4
                      try clear hcz15_5
                      try clear hcz20_0
                      try clear hcz20_1
                      try clear hcz20_2
                      try clear hcz20_3
                      try clear hcz20_4
                      try clear hcz20_5
                      try clear hcz21_0
                      try clear hcz21_1
                      try clear hcz21_2
                      try clear hcz21_3
                      try clear hcz21_4
                      try clear hcz21_5
                      try clear hcz22_0
                      try clear hcz22_1
                      try clear hcz22_2
                      try clear hcz22_3
                      try clear hcz22_4
                      try clear hcz22_5
                      try clear hfz12_0
                      try clear hfz12_1
                      try clear hfz12_2
                      try clear hfz12_3
                      try clear hfz12_4
                      try clear hfz12_5
                      try clear hfz14_0
                      try clear hfz14_1
                      try clear hfz14_2
                      try clear hfz14_3
                      try clear hfz14_4
                      try clear hfz14_5
                      try clear hfz15_0
                      try clear hfz15_1
                      try clear hfz15_2
                      try clear hfz15_3
                      try clear hfz15_4
                      try clear hfz15_5
                      try clear hfz20_0
                      try clear hfz20_1
                      try clear hfz20_2
                      try clear hfz20_3
                      try clear hfz20_4
                      try clear hfz20_5
                      try clear hfz21_0
                      try clear hfz21_1
                      try clear hfz21_2
                      try clear hfz21_3
                      try clear hfz21_4
                      try clear hfz21_5
                      try clear hfz22_0
                      try clear hfz22_1
                      try clear hfz22_2
                      try clear hfz22_3
                      try clear hfz22_4
                      try clear hfz22_5
                      try clear hx101_0
                      try clear hx101_1
                      try clear hx101_2
                      try clear hx101_3
                      try clear hx101_4
                      try clear hx101_5
                      try clear p1
                      try clear p10
                      try clear p101
                      try clear p2
                      try clear q1
                      try clear q10
                      try clear q101
                      obtain ⟨kq, x33_16, rfl, HA, HJ16, BK102, HB⟩ := hcut
                      cases kq with
                      | zero => exact absurd HA.out (by simp [preference_Exposure.j2])
                      | succ kj16 =>
                        have H := HA.out
                        clear HA
                        simp only [preference_Exposure.j2] at H
                        by_cases c23 : x33_16 = true
                        · subst c23
                          have H1 : (preference_Exposure.l0 kj16 a1 a2 a3 a4 (wrap64 (x11_1 + ((rd_T30 l0 x19_1).f4))) l0 (l0.length : Int) (wrap64 (x19_1 + 1))) = some r := by rw [if_pos rfl] at H; exact H
                          clear H
                          have H := H1
                          clear H1
                          have H' := Aside0.mk H
                          clear H
                          have hcz24_0 : wc.cell? ⟨gb102, 0, none⟩ = some (.int .i64 ((rd_T30 l0 x19_1).f0)) := (blk_cell BK102.out 0).trans rfl
                          have hcz24_1 : wc.cell? ⟨gb102, 1, none⟩ = some (.int .i64 ((rd_T30 l0 x19_1).f1)) := (blk_cell BK102.out 1).trans rfl
                          have hcz24_2 : wc.cell? ⟨gb102, 2, none⟩ = some (.int .i64 ((rd_T30 l0 x19_1).f2)) := (blk_cell BK102.out 2).trans rfl
                          have hcz24_3 : wc.cell? ⟨gb102, 3, none⟩ = some (.int .i64 ((rd_T30 l0 x19_1).f3)) := (blk_cell BK102.out 3).trans rfl
                          have hcz24_4 : wc.cell? ⟨gb102, 4, none⟩ = some (.int .i64 ((rd_T30 l0 x19_1).f4)) := (blk_cell BK102.out 4).trans rfl
                          have hcz24_5 : wc.cell? ⟨gb102, 5, none⟩ = some (.int .i64 ((rd_T30 l0 x19_1).f5)) := (blk_cell BK102.out 5).trans rfl
                          have hfz24_0 := blk_frozen BK102.out 0
                          have hfz24_1 := blk_frozen BK102.out 1
                          have hfz24_2 := blk_frozen BK102.out 2
                          have hfz24_3 := blk_frozen BK102.out 3
                          have hfz24_4 := blk_frozen BK102.out 4
                          have hfz24_5 := blk_frozen BK102.out 5
                          go_wp2
                          go_roundg kj16
                          case measure => have := HK1.out; have := HJ9.out; have := HJ16.out; omega
                          case rel => exact ⟨(wrap64 (x11_1 + ((rd_T30 l0 x19_1).f4))), (wrap64 (x19_1 + 1)), (by first | rfl | (simp; done) | (simp [*]; done)), (by first | rfl | (simp; done) | (simp [*]; done)), H', ⟨by have := HK1.out; have := HJ9.out; have := HJ16.out; omega⟩, ⟨by repeat (first | (with_reducible first | exact HB.out | apply below_alloc | apply pw_below_drewN | apply below_drew1 | refine below_set ?_ GE102.out) | exact HB.out)⟩⟩
                        · replace c23 := Bool.eq_false_iff.mpr c23
                          subst c23
                          have H1 : (if ((rd_T30 l0 x19_1).f1) = 1 then (if ((rd_T30 l0 x19_1).f2) = a2 then (if ((rd_T30 l0 x19_1).f3) = a1 then (preference_Exposure.l0 kj16 a1 a2 a3 a4 (mx (wrap64 (x11_1 - ((rd_T30 l0 x19_1).f4))) 0) l0 (l0.length : Int) (wrap64 (x19_1 + 1))) else (preference_Exposure.l0 kj16 a1 a2 a3 a4 x11_1 l0 (l0.length : Int) (wrap64 (x19_1 + 1)))) else (preference_Exposure.l0 kj16 a1 a2 a3 a4 x11_1 l0 (l0.length : Int) (wrap64 (x19_1 + 1)))) else (if ((rd_T30 l0 x19_1).f1) = 2 then (if ((rd_T30 l0 x19_1).f2) = a2 then (if ((rd_T30 l0 x19_1).f3) = a1 then (preference_Exposure.l0 kj16 a1 a2 a3 a4 (mx (wrap64 (x11_1 - ((rd_T30 l0 x19_1).f4))) 0) l0 (l0.length : Int) (wrap64 (x19_1 + 1))) else (preference_Exposure.l0 kj16 a1 a2 a3 a4 x11_1 l0 (l0.length : Int) (wrap64 (x19_1 + 1)))) else (preference_Exposure.l0 kj16 a1 a2 a3 a4 x11_1 l0 (l0.length : Int) (wrap64 (x19_1 + 1)))) else (preference_Exposure.l0 kj16 a1 a2 a3 a4 x11_1 l0 (l0.length : Int) (wrap64 (x19_1 + 1))))) = some r := by rw [if_neg (show ¬ (false = true) by decide)] at H; exact H
                          clear H
                          have H := H1
                          clear H1
                          by_cases c25 : ((rd_T30 l0 x19_1).f1) = 1
                          · rw [if_pos c25] at H
                            have c25b0 : (((rd_T30 l0 x19_1).f1) == 1) = true := beq_iff_eq.mpr c25
                            have c25b1 : (((rd_T30 l0 x19_1).f1) != 1) = false := bne_eq_false_iff_eq.mpr c25
                            clear c25
                            by_cases c26 : ((rd_T30 l0 x19_1).f2) = a2
                            · rw [if_pos c26] at H
                              have c26b0 : (((rd_T30 l0 x19_1).f2) == a2) = true := beq_iff_eq.mpr c26
                              have c26b1 : (((rd_T30 l0 x19_1).f2) != a2) = false := bne_eq_false_iff_eq.mpr c26
                              clear c26
                              by_cases c27 : ((rd_T30 l0 x19_1).f3) = a1
                              · rw [if_pos c27] at H
                                have c27b0 : (((rd_T30 l0 x19_1).f3) == a1) = true := beq_iff_eq.mpr c27
                                have c27b1 : (((rd_T30 l0 x19_1).f3) != a1) = false := bne_eq_false_iff_eq.mpr c27
                                clear c27
                                obtain ⟨ji28, hji28⟩ : ∃ j_ : Int, (mx (wrap64 (x11_1 - ((rd_T30 l0 x19_1).f4))) 0) = j_ := ⟨_, rfl⟩
                                replace H : (preference_Exposure.l0 kj16 a1 a2 a3 a4 ji28 l0 (l0.length : Int) (wrap64 (x19_1 + 1))) = some r := by first | (rw [hji28] at H; exact H) | (simp only [hji28] at H ⊢; exact H)
                                have hji28_ : (if (wrap64 (x11_1 - ((rd_T30 l0 x19_1).f4))) < 0 then 0 else (wrap64 (x11_1 - ((rd_T30 l0 x19_1).f4)))) = ji28 := hji28
                                have H' := Aside0.mk H
                                clear H
                                have hcz29_0 : wc.cell? ⟨gb102, 0, none⟩ = some (.int .i64 ((rd_T30 l0 x19_1).f0)) := (blk_cell BK102.out 0).trans rfl
                                have hcz29_1 : wc.cell? ⟨gb102, 1, none⟩ = some (.int .i64 ((rd_T30 l0 x19_1).f1)) := (blk_cell BK102.out 1).trans rfl
                                have hcz29_2 : wc.cell? ⟨gb102, 2, none⟩ = some (.int .i64 ((rd_T30 l0 x19_1).f2)) := (blk_cell BK102.out 2).trans rfl
                                have hcz29_3 : wc.cell? ⟨gb102, 3, none⟩ = some (.int .i64 ((rd_T30 l0 x19_1).f3)) := (blk_cell BK102.out 3).trans rfl
                                have hcz29_4 : wc.cell? ⟨gb102, 4, none⟩ = some (.int .i64 ((rd_T30 l0 x19_1).f4)) := (blk_cell BK102.out 4).trans rfl
                                have hcz29_5 : wc.cell? ⟨gb102, 5, none⟩ = some (.int .i64 ((rd_T30 l0 x19_1).f5)) := (blk_cell BK102.out 5).trans rfl
                                have hfz29_0 := blk_frozen BK102.out 0
                                have hfz29_1 := blk_frozen BK102.out 1
                                have hfz29_2 := blk_frozen BK102.out 2
                                have hfz29_3 := blk_frozen BK102.out 3
                                have hfz29_4 := blk_frozen BK102.out 4
                                have hfz29_5 := blk_frozen BK102.out 5
                                go_wp2
                                go_roundg kj16
                                case measure => have := HK1.out; have := HJ9.out; have := HJ16.out; omega
                                case rel => exact ⟨(ji28), (wrap64 (x19_1 + 1)), (by first | rfl | (simp; done) | (simp only [← hji28] <;> (first | rfl | simp)) | (simp [*]; done)), (by first | rfl | (simp; done) | (simp [*]; done)), H', ⟨by have := HK1.out; have := HJ9.out; have := HJ16.out; omega⟩, ⟨by repeat (first | (with_reducible first | exact HB.out | apply below_alloc | apply pw_below_drewN | apply below_drew1 | refine below_set ?_ GE102.out) | exact HB.out)⟩⟩
                              · rw [if_neg c27] at H
                                have c27b0 : (((rd_T30 l0 x19_1).f3) == a1) = false := beq_eq_false_iff_ne.mpr c27
                                have c27b1 : (((rd_T30 l0 x19_1).f3) != a1) = true := bne_iff_ne.mpr c27
                                have H' := Aside0.mk H
                                clear H
                                have hcz30_0 : wc.cell? ⟨gb102, 0, none⟩ = some (.int .i64 ((rd_T30 l0 x19_1).f0)) := (blk_cell BK102.out 0).trans rfl
                                have hcz30_1 : wc.cell? ⟨gb102, 1, none⟩ = some (.int .i64 ((rd_T30 l0 x19_1).f1)) := (blk_cell BK102.out 1).trans rfl
                                have hcz30_2 : wc.cell? ⟨gb102, 2, none⟩ = some (.int .i64 ((rd_T30 l0 x19_1).f2)) := (blk_cell BK102.out 2).trans rfl
                                have hcz30_3 : wc.cell? ⟨gb102, 3, none⟩ = some (.int .i64 ((rd_T30 l0 x19_1).f3)) := (blk_cell BK102.out 3).trans rfl
                                have hcz30_4 : wc.cell? ⟨gb102, 4, none⟩ = some (.int .i64 ((rd_T30 l0 x19_1).f4)) := (blk_cell BK102.out 4).trans rfl
                                have hcz30_5 : wc.cell? ⟨gb102, 5, none⟩ = some (.int .i64 ((rd_T30 l0 x19_1).f5)) := (blk_cell BK102.out 5).trans rfl
                                have hfz30_0 := blk_frozen BK102.out 0
                                have hfz30_1 := blk_frozen BK102.out 1
                                have hfz30_2 := blk_frozen BK102.out 2
                                have hfz30_3 := blk_frozen BK102.out 3
                                have hfz30_4 := blk_frozen BK102.out 4
                                have hfz30_5 := blk_frozen BK102.out 5
                                go_wp2
                                go_roundg kj16
                                case measure => have := HK1.out; have := HJ9.out; have := HJ16.out; omega
                                case rel => exact ⟨(x11_1), (wrap64 (x19_1 + 1)), (by first | rfl | (simp; done) | (simp [*]; done)), (by first | rfl | (simp; done) | (simp [*]; done)), H', ⟨by have := HK1.out; have := HJ9.out; have := HJ16.out; omega⟩, ⟨by repeat (first | (with_reducible first | exact HB.out | apply below_alloc | apply pw_below_drewN | apply below_drew1 | refine below_set ?_ GE102.out) | exact HB.out)⟩⟩
                            · rw [if_neg c26] at H
                              have c26b0 : (((rd_T30 l0 x19_1).f2) == a2) = false := beq_eq_false_iff_ne.mpr c26
                              have c26b1 : (((rd_T30 l0 x19_1).f2) != a2) = true := bne_iff_ne.mpr c26
                              have H' := Aside0.mk H
                              clear H
                              have hcz31_0 : wc.cell? ⟨gb102, 0, none⟩ = some (.int .i64 ((rd_T30 l0 x19_1).f0)) := (blk_cell BK102.out 0).trans rfl
                              have hcz31_1 : wc.cell? ⟨gb102, 1, none⟩ = some (.int .i64 ((rd_T30 l0 x19_1).f1)) := (blk_cell BK102.out 1).trans rfl
                              have hcz31_2 : wc.cell? ⟨gb102, 2, none⟩ = some (.int .i64 ((rd_T30 l0 x19_1).f2)) := (blk_cell BK102.out 2).trans rfl
                              have hcz31_3 : wc.cell? ⟨gb102, 3, none⟩ = some (.int .i64 ((rd_T30 l0 x19_1).f3)) := (blk_cell BK102.out 3).trans rfl
                              have hcz31_4 : wc.cell? ⟨gb102, 4, none⟩ = some (.int .i64 ((rd_T30 l0 x19_1).f4)) := (blk_cell BK102.out 4).trans rfl
                              have hcz31_5 : wc.cell? ⟨gb102, 5, none⟩ = some (.int .i64 ((rd_T30 l0 x19_1).f5)) := (blk_cell BK102.out 5).trans rfl
                              have hfz31_0 := blk_frozen BK102.out 0
                              have hfz31_1 := blk_frozen BK102.out 1
                              have hfz31_2 := blk_frozen BK102.out 2
                              have hfz31_3 := blk_frozen BK102.out 3
                              have hfz31_4 := blk_frozen BK102.out 4
                              have hfz31_5 := blk_frozen BK102.out 5
                              go_wp2
                              go_roundg kj16
                              case measure => have := HK1.out; have := HJ9.out; have := HJ16.out; omega
                              case rel => exact ⟨(x11_1), (wrap64 (x19_1 + 1)), (by first | rfl | (simp; done) | (simp [*]; done)), (by first | rfl | (simp; done) | (simp [*]; done)), H', ⟨by have := HK1.out; have := HJ9.out; have := HJ16.out; omega⟩, ⟨by repeat (first | (with_reducible first | exact HB.out | apply below_alloc | apply pw_below_drewN | apply below_drew1 | refine below_set ?_ GE102.out) | exact HB.out)⟩⟩
                          · rw [if_neg c25] at H
                            have c25b0 : (((rd_T30 l0 x19_1).f1) == 1) = false := beq_eq_false_iff_ne.mpr c25
                            have c25b1 : (((rd_T30 l0 x19_1).f1) != 1) = true := bne_iff_ne.mpr c25
                            by_cases c32 : ((rd_T30 l0 x19_1).f1) = 2
                            · rw [if_pos c32] at H
                              have c32b0 : (((rd_T30 l0 x19_1).f1) == 2) = true := beq_iff_eq.mpr c32
                              have c32b1 : (((rd_T30 l0 x19_1).f1) != 2) = false := bne_eq_false_iff_eq.mpr c32
                              clear c32
                              by_cases c33 : ((rd_T30 l0 x19_1).f2) = a2
                              · rw [if_pos c33] at H
                                have c33b0 : (((rd_T30 l0 x19_1).f2) == a2) = true := beq_iff_eq.mpr c33
                                have c33b1 : (((rd_T30 l0 x19_1).f2) != a2) = false := bne_eq_false_iff_eq.mpr c33
                                clear c33
                                by_cases c34 : ((rd_T30 l0 x19_1).f3) = a1
                                · rw [if_pos c34] at H
                                  have c34b0 : (((rd_T30 l0 x19_1).f3) == a1) = true := beq_iff_eq.mpr c34
                                  have c34b1 : (((rd_T30 l0 x19_1).f3) != a1) = false := bne_eq_false_iff_eq.mpr c34
                                  clear c34
                                  obtain ⟨ji35, hji35⟩ : ∃ j_ : Int, (mx (wrap64 (x11_1 - ((rd_T30 l0 x19_1).f4))) 0) = j_ := ⟨_, rfl⟩
                                  replace H : (preference_Exposure.l0 kj16 a1 a2 a3 a4 ji35 l0 (l0.length : Int) (wrap64 (x19_1 + 1))) = some r := by first | (rw [hji35] at H; exact H) | (simp only [hji35] at H ⊢; exact H)
                                  have hji35_ : (if (wrap64 (x11_1 - ((rd_T30 l0 x19_1).f4))) < 0 then 0 else (wrap64 (x11_1 - ((rd_T30 l0 x19_1).f4)))) = ji35 := hji35
                                  have H' := Aside0.mk H
                                  clear H
                                  have hcz36_0 : wc.cell? ⟨gb102, 0, none⟩ = some (.int .i64 ((rd_T30 l0 x19_1).f0)) := (blk_cell BK102.out 0).trans rfl
                                  have hcz36_1 : wc.cell? ⟨gb102, 1, none⟩ = some (.int .i64 ((rd_T30 l0 x19_1).f1)) := (blk_cell BK102.out 1).trans rfl
                                  have hcz36_2 : wc.cell? ⟨gb102, 2, none⟩ = some (.int .i64 ((rd_T30 l0 x19_1).f2)) := (blk_cell BK102.out 2).trans rfl
                                  have hcz36_3 : wc.cell? ⟨gb102, 3, none⟩ = some (.int .i64 ((rd_T30 l0 x19_1).f3)) := (blk_cell BK102.out 3).trans rfl
                                  have hcz36_4 : wc.cell? ⟨gb102, 4, none⟩ = some (.int .i64 ((rd_T30 l0 x19_1).f4)) := (blk_cell BK102.out 4).trans rfl
                                  have hcz36_5 : wc.cell? ⟨gb102, 5, none⟩ = some (.int .i64 ((rd_T30 l0 x19_1).f5)) := (blk_cell BK102.out 5).trans rfl
                                  have hfz36_0 := blk_frozen BK102.out 0
                                  have hfz36_1 := blk_frozen BK102.out 1
                                  have hfz36_2 := blk_frozen BK102.out 2
                                  have hfz36_3 := blk_frozen BK102.out 3
                                  have hfz36_4 := blk_frozen BK102.out 4
                                  have hfz36_5 := blk_frozen BK102.out 5
                                  go_wp2
                                  go_roundg kj16
                                  case measure => have := HK1.out; have := HJ9.out; have := HJ16.out; omega
                                  case rel => exact ⟨(ji35), (wrap64 (x19_1 + 1)), (by first | rfl | (simp; done) | (simp only [← hji35] <;> (first | rfl | simp)) | (simp [*]; done)), (by first | rfl | (simp; done) | (simp [*]; done)), H', ⟨by have := HK1.out; have := HJ9.out; have := HJ16.out; omega⟩, ⟨by repeat (first | (with_reducible first | exact HB.out | apply below_alloc | apply pw_below_drewN | apply below_drew1 | refine below_set ?_ GE102.out) | exact HB.out)⟩⟩
                                · rw [if_neg c34] at H
                                  have c34b0 : (((rd_T30 l0 x19_1).f3) == a1) = false := beq_eq_false_iff_ne.mpr c34
                                  have c34b1 : (((rd_T30 l0 x19_1).f3) != a1) = true := bne_iff_ne.mpr c34
                                  have H' := Aside0.mk H
                                  clear H
                                  have hcz37_0 : wc.cell? ⟨gb102, 0, none⟩ = some (.int .i64 ((rd_T30 l0 x19_1).f0)) := (blk_cell BK102.out 0).trans rfl
                                  have hcz37_1 : wc.cell? ⟨gb102, 1, none⟩ = some (.int .i64 ((rd_T30 l0 x19_1).f1)) := (blk_cell BK102.out 1).trans rfl
                                  have hcz37_2 : wc.cell? ⟨gb102, 2, none⟩ = some (.int .i64 ((rd_T30 l0 x19_1).f2)) := (blk_cell BK102.out 2).trans rfl
                                  have hcz37_3 : wc.cell? ⟨gb102, 3, none⟩ = some (.int .i64 ((rd_T30 l0 x19_1).f3)) := (blk_cell BK102.out 3).trans rfl
                                  have hcz37_4 : wc.cell? ⟨gb102, 4, none⟩ = some (.int .i64 ((rd_T30 l0 x19_1).f4)) := (blk_cell BK102.out 4).trans rfl
                                  have hcz37_5 : wc.cell? ⟨gb102, 5, none⟩ = some (.int .i64 ((rd_T30 l0 x19_1).f5)) := (blk_cell BK102.out 5).trans rfl
                                  have hfz37_0 := blk_frozen BK102.out 0
                                  have hfz37_1 := blk_frozen BK102.out 1
                                  have hfz37_2 := blk_frozen BK102.out 2
                                  have hfz37_3 := blk_frozen BK102.out 3
                                  have hfz37_4 := blk_frozen BK102.out 4
                                  have hfz37_5 := blk_frozen BK102.out 5
                                  go_wp2
                                  go_roundg kj16
                                  case measure => have := HK1.out; have := HJ9.out; have := HJ16.out; omega
                                  case rel => exact ⟨(x11_1), (wrap64 (x19_1 + 1)), (by first | rfl | (simp; done) | (simp [*]; done)), (by first | rfl | (simp; done) | (simp [*]; done)), H', ⟨by have := HK1.out; have := HJ9.out; have := HJ16.out; omega⟩, ⟨by repeat (first | (with_reducible first | exact HB.out | apply below_alloc | apply pw_below_drewN | apply below_drew1 | refine below_set ?_ GE102.out) | exact HB.out)⟩⟩
                              · rw [if_neg c33] at H
                                have c33b0 : (((rd_T30 l0 x19_1).f2) == a2) = false := beq_eq_false_iff_ne.mpr c33
                                have c33b1 : (((rd_T30 l0 x19_1).f2) != a2) = true := bne_iff_ne.mpr c33
                                have H' := Aside0.mk H
                                clear H
                                have hcz38_0 : wc.cell? ⟨gb102, 0, none⟩ = some (.int .i64 ((rd_T30 l0 x19_1).f0)) := (blk_cell BK102.out 0).trans rfl
                                have hcz38_1 : wc.cell? ⟨gb102, 1, none⟩ = some (.int .i64 ((rd_T30 l0 x19_1).f1)) := (blk_cell BK102.out 1).trans rfl
                                have hcz38_2 : wc.cell? ⟨gb102, 2, none⟩ = some (.int .i64 ((rd_T30 l0 x19_1).f2)) := (blk_cell BK102.out 2).trans rfl
                                have hcz38_3 : wc.cell? ⟨gb102, 3, none⟩ = some (.int .i64 ((rd_T30 l0 x19_1).f3)) := (blk_cell BK102.out 3).trans rfl
                                have hcz38_4 : wc.cell? ⟨gb102, 4, none⟩ = some (.int .i64 ((rd_T30 l0 x19_1).f4)) := (blk_cell BK102.out 4).trans rfl
                                have hcz38_5 : wc.cell? ⟨gb102, 5, none⟩ = some (.int .i64 ((rd_T30 l0 x19_1).f5)) := (blk_cell BK102.out 5).trans rfl
                                have hfz38_0 := blk_frozen BK102.out 0
                                have hfz38_1 := blk_frozen BK102.out 1
                                have hfz38_2 := blk_frozen BK102.out 2
                                have hfz38_3 := blk_frozen BK102.out 3
                                have hfz38_4 := blk_frozen BK102.out 4
                                have hfz38_5 := blk_frozen BK102.out 5
                                go_wp2
                                go_roundg kj16
                                case measure => have := HK1.out; have := HJ9.out; have := HJ16.out; omega
                                case rel => exact ⟨(x11_1), (wrap64 (x19_1 + 1)), (by first | rfl | (simp; done) | (simp [*]; done)), (by first | rfl | (simp; done) | (simp [*]; done)), H', ⟨by have := HK1.out; have := HJ9.out; have := HJ16.out; omega⟩, ⟨by repeat (first | (with_reducible first | exact HB.out | apply below_alloc | apply pw_below_drewN | apply below_drew1 | refine below_set ?_ GE102.out) | exact HB.out)⟩⟩
                            · rw [if_neg c32] at H
                              have c32b0 : (((rd_T30 l0 x19_1).f1) == 2) = false := beq_eq_false_iff_ne.mpr c32
                              have c32b1 : (((rd_T30 l0 x19_1).f1) != 2) = true := bne_iff_ne.mpr c32
                              have H' := Aside0.mk H
                              clear H
                              have hcz39_0 : wc.cell? ⟨gb102, 0, none⟩ = some (.int .i64 ((rd_T30 l0 x19_1).f0)) := (blk_cell BK102.out 0).trans rfl
                              have hcz39_1 : wc.cell? ⟨gb102, 1, none⟩ = some (.int .i64 ((rd_T30 l0 x19_1).f1)) := (blk_cell BK102.out 1).trans rfl
                              have hcz39_2 : wc.cell? ⟨gb102, 2, none⟩ = some (.int .i64 ((rd_T30 l0 x19_1).f2)) := (blk_cell BK102.out 2).trans rfl
                              have hcz39_3 : wc.cell? ⟨gb102, 3, none⟩ = some (.int .i64 ((rd_T30 l0 x19_1).f3)) := (blk_cell BK102.out 3).trans rfl
                              have hcz39_4 : wc.cell? ⟨gb102, 4, none⟩ = some (.int .i64 ((rd_T30 l0 x19_1).f4)) := (blk_cell BK102.out 4).trans rfl
                              have hcz39_5 : wc.cell? ⟨gb102, 5, none⟩ = some (.int .i64 ((rd_T30 l0 x19_1).f5)) := (blk_cell BK102.out 5).trans rfl
                              have hfz39_0 := blk_frozen BK102.out 0
                              have hfz39_1 := blk_frozen BK102.out 1
                              have hfz39_2 := blk_frozen BK102.out 2
                              have hfz39_3 := blk_frozen BK102.out 3
                              have hfz39_4 := blk_frozen BK102.out 4
                              have hfz39_5 := blk_frozen BK102.out 5
                              go_wp2
                              go_roundg kj16
                              case measure => have := HK1.out; have := HJ9.out; have := HJ16.out; omega
                              case rel => exact ⟨(x11_1), (wrap64 (x19_1 + 1)), (by first | rfl | (simp; done) | (simp [*]; done)), (by first | rfl | (simp; done) | (simp [*]; done)), H', ⟨by have := HK1.out; have := HJ9.out; have := HJ16.out; omega⟩, ⟨by repeat (first | (with_reducible first | exact HB.out | apply below_alloc | apply pw_below_drewN | apply below_drew1 | refine below_set ?_ GE102.out) | exact HB.out)⟩⟩
            · rw [if_neg c9] at H
              exact absurd H (by simp)
          · rw [if_neg c8] at H
            exact absurd H (by simp)
        · rw [if_neg c7] at H
          have c7b0 : decide (x19_1 < (l0.length : Int)) = false := decide_eq_false c7
          clear c7
          obtain rfl := Option.some.inj H
          go_wp2
          go_ret
          exact ⟨by first | rfl | (simp [errW_none, errW_some] <;> rfl) | (simp [*, errW_none, errW_some] <;> rfl), by repeat (first | (with_reducible first | exact HB.out | apply below_alloc | apply pw_below_drewN | apply below_drew1) | exact HB.out)⟩

/-! ### insolvencylaw26_awake: function 9 -/
def insolvencylaw26_awake.f (k : Nat)  : Option (Bool) := (preference_Exposure.f k (([(⟨0, 1, 0, 1, 100, 0⟩ : S30), (⟨0, 2, 1, 0, 120, 0⟩ : S30), (⟨0, 1, 0, 1, 50, 0⟩ : S30)] : List (S30))) 0 1 0 0).bind fun t106 => (some (t106 == 50))
theorem insolvencylaw26_awake.mono : ∀ k, LeO (insolvencylaw26_awake.f k ) (insolvencylaw26_awake.f (k + 1) ) := by
  intro  k
  unfold insolvencylaw26_awake.f
  repeat' first
      | (with_reducible exact preference_Exposure.mono _ _ _ _ _ _)
      | (with_reducible exact LeO.refl _)
      | (with_reducible exact LeO.none _)
      | (with_reducible refine LeO.ite ?_ ?_)
      | (with_reducible refine LeO.bind ?_ (fun _ => ?_))
      | exact preference_Exposure.mono _ _ _ _ _ _
      | exact LeO.none _
      | refine LeO.ite ?_ ?_
      | refine LeO.bind ?_ (fun _ => ?_)
set_option maxHeartbeats 8000000 in
set_option maxRecDepth 100000 in
theorem insolvencylaw26_awake.calls (k : Nat)  (r : Bool) (w : World) (h : insolvencylaw26_awake.f k  = some r) :
    Calls Try.prog 9 #[] w fun e w' => e = .returned (.bool r) ∧ Below w.heap.size w w' := by
  have hu30 := Try.underlying30
  have HB := Aside0.mk (Below.refl w.heap.size w)
  have H : ((preference_Exposure.f k (([(⟨0, 1, 0, 1, 100, 0⟩ : S30), (⟨0, 2, 1, 0, 120, 0⟩ : S30), (⟨0, 1, 0, 1, 50, 0⟩ : S30)] : List (S30))) 0 1 0 0).bind fun t106 => (some (t106 == 50))) = some r := h
  clear h
  obtain ⟨y103, hy103⟩ : ∃ y_ : List (S30), y_ = (([(⟨0, 1, 0, 1, 100, 0⟩ : S30), (⟨0, 2, 1, 0, 120, 0⟩ : S30), (⟨0, 1, 0, 1, 50, 0⟩ : S30)] : List (S30))) := ⟨_, rfl⟩
  replace H : ((preference_Exposure.f k y103 0 1 0 0).bind fun t106 => (some (t106 == 50))) = some r := by first | (rw [hy103]; with_reducible exact H) | (have H2_ := (Option.bind_some _ _).symm.trans H; rw [hy103]; with_reducible exact H2_) | (have H2_ := (Option.bind_some _ _).symm.trans H; with_reducible exact H2_) | with_reducible exact H | (rw [hy103]; exact H) | exact H
  have Ny103 := Aside0.mk hy103
  clear hy103
  replace H := Option.bind_eq_some_iff.mp H
  obtain ⟨t106, A10, H⟩ := H
  replace H : (some (t106 == 50)) = some r := H
  have A1 := Aside0.mk A10
  clear A10
  obtain rfl := Option.some.inj H
  go_enter Try.func9, Try.ntmps9
  go_wp2_with (first | ((with_reducible refine gate_dst (N := 5) rfl ?_); refine Kd.R_lit k30 _ 30 ?hg (N := 5) ?hd (xs := ([(⟨0, 1, 0, 1, 100, 0⟩ : S30), (⟨0, 2, 1, 0, 120, 0⟩ : S30), (⟨0, 1, 0, 1, 50, 0⟩ : S30)] : List (S30))) (inner := [.int .i64 0, .int .i64 1, .int .i64 0, .int .i64 1, .int .i64 100, .int .i64 0, .int .i64 0, .int .i64 2, .int .i64 1, .int .i64 0, .int .i64 120, .int .i64 0, .int .i64 0, .int .i64 1, .int .i64 0, .int .i64 1, .int .i64 50, .int .i64 0]) (ok := fun _ => True) (okp := fun _ => True) ?hr ?hp (fun _ hk => hk) trivial (Below.refl _ _) (Nat.le_refl _) (by simp) ?_; (case hd => rfl); (case hg => rfl); (case hr => first | (go_simp; done) | (go_simp; rfl)); (case hp => exact (Reps.c6 (show Kd.M k30 _ _ _ (⟨0, 1, 0, 1, 100, 0⟩ : S30) [.int .i64 0, .int .i64 1, .int .i64 0, .int .i64 1, .int .i64 100, .int .i64 0] from (k30_mkM _ _ _ (⟨0, 1, 0, 1, 100, 0⟩ : S30) )) (Reps.c6 (show Kd.M k30 _ _ _ (⟨0, 2, 1, 0, 120, 0⟩ : S30) [.int .i64 0, .int .i64 2, .int .i64 1, .int .i64 0, .int .i64 120, .int .i64 0] from (k30_mkM _ _ _ (⟨0, 2, 1, 0, 120, 0⟩ : S30) )) (Reps.c6 (show Kd.M k30 _ _ _ (⟨0, 1, 0, 1, 50, 0⟩ : S30) [.int .i64 0, .int .i64 1, .int .i64 0, .int .i64 1, .int .i64 50, .int .i64 0] from (k30_mkM _ _ _ (⟨0, 1, 0, 1, 50, 0⟩ : S30) )) (Reps.none _ _))))); intro v104 w2 ho3 hb hg_ hnew_; clear hg_ hnew_; (first | rw [← Ny103.out] at ho3 | (simp only [Int.reduceToNat] at ho3; rw [← Ny103.out] at ho3)); have n0_ := Aside0.mk (Kd.R_lower ho3 (below_size (by repeat (first | (with_reducible first | exact HB.out | apply below_alloc | apply pw_below_drewN | apply below_drew1) | exact HB.out)))); have n1_ := Aside0.mk (below_step (by repeat (first | (with_reducible first | exact HB.out | apply below_alloc | apply pw_below_drewN | apply below_drew1) | exact HB.out)) hb); clear HB; have HO105 := n0_; have HB := n1_; clear n0_ n1_; clear hb ho3; obtain ⟨Ao4, co4, eo4⟩ := Kd.R_slice HO105.out; subst eo4) | ((with_reducible refine gate_callee (f := 11) rfl ?_); refine goesL_ (some 7) rfl rfl Try.func11 (by kernel_rfl) rfl #[.slice Ao4 y103.length co4, .int .i64 0, .int .i64 1, .int .i64 0, .int .i64 0] rfl (by (try simp only [List.map_toArray, List.map_cons, List.map_nil]); first | done | rfl | (simp only [List.length_drop, List.length_take]; rfl)) ?_; (with_reducible refine (preference_Exposure.calls k _ _ y103 0 1 0 0 t106 _ ?side1 ?side2 A1.out).mono ?_); (case side1 => repeat (first | exact (Kd.R_reads' HO105.out).2.2 | (with_reducible refine Kd.C_alloc ?_ _) | (with_reducible refine Kd.C_drewN ?_ _) | (with_reducible refine Kd.C_drew ?_))); (case side2 => exact (Kd.R_reads' HO105.out).2.1); rintro e w5 ⟨rfl, hb⟩; refine ⟨_, rfl, ?_⟩; have n0_ := Aside0.mk (Kd.R_below (by (with_reducible repeat (first | apply Kd.R_alloc | apply Kd.R_drewN | apply Kd.R_drew)); exact HO105.out) hb); have n1_ := Aside0.mk (below_step (by repeat (first | (with_reducible first | exact HB.out | apply below_alloc | apply pw_below_drewN | apply below_drew1) | exact HB.out)) hb); clear HO105; clear HB; have HO105 := n0_; have HB := n1_; clear n0_ n1_; (try clear hb); (try clear hb2); (try clear hk); (try clear hi)))
  go_ret
  exact ⟨by first | rfl | (simp [errW_none, errW_some] <;> rfl) | (simp [*, errW_none, errW_some] <;> rfl), by repeat (first | (with_reducible first | exact HB.out | apply below_alloc | apply pw_below_drewN | apply below_drew1) | exact HB.out)⟩

end Go.Proofs.Ythljfcojmheopaa.PAll
