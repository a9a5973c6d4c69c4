-- PRINTED by a session's own changed print
import Derived.Test.YtljenpakncmlkaaPAllx0
import Derived.Test.YtljenpakncmlkaaPAllx4
namespace Go.Proofs.Ytljenpakncmlkaa.PAll
open Go.RowKit Go.Proofs.YtljenpakncmlkaaW.PrintWords Go.Proofs.YtljenpakncmlkaaW.PrintLast Go.Proofs.YtljenpakncmlkaaW.PrintMore
attribute [local go_sem] max2_int min2_int max_two min_two max_three min_three max_four min_four   -- for this text's walks alone
set_option linter.unusedVariables false
set_option linter.unusedSimpArgs false

/-! ### insolvencyref25_Check: function 38 -/
mutual
def insolvencyref25_Check.l0 : Nat → Int → List (S36) → Int → Option (Int)
  | 0, _, _, _ => none
  | k + 1, x0, x1, x5 => if x5 < (x1.length : Int) then (if 0 ≤ x5 then ((insolvencyref25_day.f ((rd_T36 x1 x5).f0)).bind fun t135 => (if t135 = true then (if ((rd_T36 x1 x5).f1) < 1 then (insolvencyref25_Check.j1 k x0 x1 x5 true ((rd_T36 x1 x5).f0) ((rd_T36 x1 x5).f1) ((rd_T36 x1 x5).f2) ((rd_T36 x1 x5).f3) ((rd_T36 x1 x5).f4) ((rd_T36 x1 x5).f5)) else (if ((rd_T36 x1 x5).f1) > 3 then (insolvencyref25_Check.j1 k x0 x1 x5 true ((rd_T36 x1 x5).f0) ((rd_T36 x1 x5).f1) ((rd_T36 x1 x5).f2) ((rd_T36 x1 x5).f3) ((rd_T36 x1 x5).f4) ((rd_T36 x1 x5).f5)) else ((insolvencyref25_cents.f ((rd_T36 x1 x5).f4)).bind fun t136 => (if t136 = true then ((insolvencyref25_cents.f ((rd_T36 x1 x5).f5)).bind fun t137 => (if t137 = true then (if ((rd_T36 x1 x5).f5) = 0 then (insolvencyref25_Check.j1 k x0 x1 x5 false ((rd_T36 x1 x5).f0) ((rd_T36 x1 x5).f1) ((rd_T36 x1 x5).f2) ((rd_T36 x1 x5).f3) ((rd_T36 x1 x5).f4) ((rd_T36 x1 x5).f5)) else (insolvencyref25_Check.j1 k x0 x1 x5 (((rd_T36 x1 x5).f1) != 3) ((rd_T36 x1 x5).f0) ((rd_T36 x1 x5).f1) ((rd_T36 x1 x5).f2) ((rd_T36 x1 x5).f3) ((rd_T36 x1 x5).f4) ((rd_T36 x1 x5).f5))) else (insolvencyref25_Check.j1 k x0 x1 x5 true ((rd_T36 x1 x5).f0) ((rd_T36 x1 x5).f1) ((rd_T36 x1 x5).f2) ((rd_T36 x1 x5).f3) ((rd_T36 x1 x5).f4) ((rd_T36 x1 x5).f5)))) else (insolvencyref25_Check.j1 k x0 x1 x5 true ((rd_T36 x1 x5).f0) ((rd_T36 x1 x5).f1) ((rd_T36 x1 x5).f2) ((rd_T36 x1 x5).f3) ((rd_T36 x1 x5).f4) ((rd_T36 x1 x5).f5)))))) else (insolvencyref25_Check.j1 k x0 x1 x5 true ((rd_T36 x1 x5).f0) ((rd_T36 x1 x5).f1) ((rd_T36 x1 x5).f2) ((rd_T36 x1 x5).f3) ((rd_T36 x1 x5).f4) ((rd_T36 x1 x5).f5)))) else (none)) else (some 0)
def insolvencyref25_Check.j1 : Nat → Int → List (S36) → Int → Bool → Int → Int → Int → Int → Int → Int → Option (Int)
  | 0, _, _, _, _, _, _, _, _, _, _ => none
  | k + 1, x0, x1, x5, x55, x135000, x135001, x135002, x135003, x135004, x135005 => if x55 = true then (some 1) else (if x135002 < 0 then (insolvencyref25_Check.j2 k x0 x1 x5 true x135000 x135001 x135002 x135003 x135004 x135005) else (if x135002 ≥ x0 then (insolvencyref25_Check.j2 k x0 x1 x5 true x135000 x135001 x135002 x135003 x135004 x135005) else (if x135003 < 0 then (insolvencyref25_Check.j2 k x0 x1 x5 true x135000 x135001 x135002 x135003 x135004 x135005) else (if x135003 ≥ x0 then (insolvencyref25_Check.j2 k x0 x1 x5 true x135000 x135001 x135002 x135003 x135004 x135005) else (insolvencyref25_Check.j2 k x0 x1 x5 (x135002 == x135003) x135000 x135001 x135002 x135003 x135004 x135005)))))
def insolvencyref25_Check.j2 : Nat → Int → List (S36) → Int → Bool → Int → Int → Int → Int → Int → Int → Option (Int)
  | 0, _, _, _, _, _, _, _, _, _, _ => none
  | k + 1, x0, x1, x5, x82, x135000, x135001, x135002, x135003, x135004, x135005 => if x82 = true then (some 14) else (if x5 > 0 then (if 0 ≤ (wrap64 (x5 - 1)) then (if (wrap64 (x5 - 1)) < (x1.length : Int) then (if x135000 < ((rd_T36 x1 (wrap64 (x5 - 1))).f0) then (some 15) else (insolvencyref25_Check.l0 k x0 x1 (wrap64 (x5 + 1)))) else (none)) else (none)) else (insolvencyref25_Check.l0 k x0 x1 (wrap64 (x5 + 1))))
end
def insolvencyref25_Check.f (k : Nat) (a0 : Int) (l1 : List (S36)) : Option (Int) := if (l1.length : Int) > 256 then (some 2) else (insolvencyref25_Check.l0 k a0 l1 0)
theorem insolvencyref25_Check.mono_l : ∀ k, (∀ y0 y1 y2, LeO (insolvencyref25_Check.l0 k y0 y1 y2) (insolvencyref25_Check.l0 (k + 1) y0 y1 y2)) ∧ (∀ y0 y1 y2 y3 y4 y5 y6 y7 y8 y9, LeO (insolvencyref25_Check.j1 k y0 y1 y2 y3 y4 y5 y6 y7 y8 y9) (insolvencyref25_Check.j1 (k + 1) y0 y1 y2 y3 y4 y5 y6 y7 y8 y9)) ∧ (∀ y0 y1 y2 y3 y4 y5 y6 y7 y8 y9, LeO (insolvencyref25_Check.j2 k y0 y1 y2 y3 y4 y5 y6 y7 y8 y9) (insolvencyref25_Check.j2 (k + 1) y0 y1 y2 y3 y4 y5 y6 y7 y8 y9))
  | 0 => ⟨fun _ _ _ r h => by simp [insolvencyref25_Check.l0] at h, fun _ _ _ _ _ _ _ _ _ _ r h => by simp [insolvencyref25_Check.j1] at h, fun _ _ _ _ _ _ _ _ _ _ r h => by simp [insolvencyref25_Check.j2] at h⟩
  | k + 1 => by
    obtain ⟨ih0, ih1, ih2⟩ := insolvencyref25_Check.mono_l k
    refine ⟨?_, ?_, ?_⟩
    · intro y0 y1 y2
      unfold insolvencyref25_Check.l0
      repeat' first
      | (with_reducible exact ih0 _ _ _)
      | (with_reducible exact ih1 _ _ _ _ _ _ _ _ _ _)
      | (with_reducible exact ih2 _ _ _ _ _ _ _ _ _ _)
      | (with_reducible exact LeO.refl _)
      | (with_reducible exact LeO.none _)
      | (with_reducible refine LeO.ite ?_ ?_)
      | (with_reducible refine LeO.bind ?_ (fun _ => ?_))
      | exact ih0 _ _ _
      | exact ih1 _ _ _ _ _ _ _ _ _ _
      | exact ih2 _ _ _ _ _ _ _ _ _ _
      | exact LeO.none _
      | refine LeO.ite ?_ ?_
      | refine LeO.bind ?_ (fun _ => ?_)
    · intro y0 y1 y2 y3 y4 y5 y6 y7 y8 y9
      unfold insolvencyref25_Check.j1
      repeat' first
      | (with_reducible exact ih0 _ _ _)
      | (with_reducible exact ih1 _ _ _ _ _ _ _ _ _ _)
      | (with_reducible exact ih2 _ _ _ _ _ _ _ _ _ _)
      | (with_reducible exact LeO.refl _)
      | (with_reducible exact LeO.none _)
      | (with_reducible refine LeO.ite ?_ ?_)
      | (with_reducible refine LeO.bind ?_ (fun _ => ?_))
      | exact ih0 _ _ _
      | exact ih1 _ _ _ _ _ _ _ _ _ _
      | exact ih2 _ _ _ _ _ _ _ _ _ _
      | exact LeO.none _
      | refine LeO.ite ?_ ?_
      | refine LeO.bind ?_ (fun _ => ?_)
    · intro y0 y1 y2 y3 y4 y5 y6 y7 y8 y9
      unfold insolvencyref25_Check.j2
      repeat' first
      | (with_reducible exact ih0 _ _ _)
      | (with_reducible exact ih1 _ _ _ _ _ _ _ _ _ _)
      | (with_reducible exact ih2 _ _ _ _ _ _ _ _ _ _)
      | (with_reducible exact LeO.refl _)
      | (with_reducible exact LeO.none _)
      | (with_reducible refine LeO.ite ?_ ?_)
      | (with_reducible refine LeO.bind ?_ (fun _ => ?_))
      | exact ih0 _ _ _
      | exact ih1 _ _ _ _ _ _ _ _ _ _
      | exact ih2 _ _ _ _ _ _ _ _ _ _
      | exact LeO.none _
      | refine LeO.ite ?_ ?_
      | refine LeO.bind ?_ (fun _ => ?_)
theorem insolvencyref25_Check.mono : ∀ a0 a1 k, LeO (insolvencyref25_Check.f k a0 a1) (insolvencyref25_Check.f (k + 1) a0 a1) := by
  intro a0 a1 k
  obtain ⟨ih0, ih1, ih2⟩ := insolvencyref25_Check.mono_l k
  unfold insolvencyref25_Check.f
  repeat' first
      | (with_reducible exact ih0 _ _ _)
      | (with_reducible exact ih1 _ _ _ _ _ _ _ _ _ _)
      | (with_reducible exact ih2 _ _ _ _ _ _ _ _ _ _)
      | (with_reducible exact LeO.refl _)
      | (with_reducible exact LeO.none _)
      | (with_reducible refine LeO.ite ?_ ?_)
      | (with_reducible refine LeO.bind ?_ (fun _ => ?_))
      | exact ih0 _ _ _
      | exact ih1 _ _ _ _ _ _ _ _ _ _
      | exact ih2 _ _ _ _ _ _ _ _ _ _
      | exact LeO.none _
      | refine LeO.ite ?_ ?_
      | refine LeO.bind ?_ (fun _ => ?_)
set_option maxHeartbeats 8000000 in
set_option maxRecDepth 100000 in
theorem insolvencyref25_Check.calls (k : Nat) (a0 : Int) (A1 : Option Addr) (c1 : Nat) (l1 : List (S36)) (r : Int) (w : World) (hr1 : Kd.C k36 w A1 l1.length l1) (hc1 : l1.length ≤ c1) (h : insolvencyref25_Check.f k a0 l1 = some r) :
    Calls Try.prog 38 #[.int .i64 a0, .slice A1 l1.length c1] w fun e w' => e = .returned (.int .i64 r) ∧ Below w.heap.size w w' := by
  have hu36 := Try.underlying36
  have HR1 := Aside0.mk hr1
  have HC1 := Aside0.mk hc1
  clear hr1 hc1
  have HB := Aside0.mk (Below.refl w.heap.size w)
  have H : (if (l1.length : Int) > 256 then (some 2) else (insolvencyref25_Check.l0 k a0 l1 0)) = some r := h
  clear h
  by_cases c3 : (l1.length : Int) > 256
  · rw [if_pos c3] at H
    have c3b0 : decide (256 < (l1.length : Int)) = true := decide_eq_true c3
    have c3b1 : decide (256 < l1.length) = true := decide_eq_true (by omega)
    clear c3
    obtain rfl := Option.some.inj H
    go_enter Try.func38, Try.ntmps38
    go_wp2
    repeat (go_quiet (fail); try go_wp2)
    go_ret
    exact ⟨by first | rfl | (simp [errW_none, errW_some] <;> rfl) | (simp [*, errW_none, errW_some] <;> rfl), by repeat (first | (with_reducible first | exact HB.out | apply below_alloc | apply pw_below_drewN | apply below_drew1) | exact HB.out)⟩
  · rw [if_neg c3] at H
    have c3b0 : decide (256 < (l1.length : Int)) = false := decide_eq_false c3
    have c3b1 : decide (256 < l1.length) = false := decide_eq_false (by omega)
    clear c3
    have H' := Aside0.mk H
    clear H
    go_enter Try.func38, Try.ntmps38
    go_wp2
    repeat (go_quiet (fail); try go_wp2)
    go_loopg [5] k (fun kq v5 w' => ∃ (x5_1 : Int), v5 = .int .i64 x5_1 ∧ Aside0 (insolvencyref25_Check.l0 kq a0 l1 x5_1 = some r) ∧ Aside0 (kq ≤ k) ∧ Aside0 (Below w.heap.size w w'))
    case atStart => exact ⟨(0), (by first | rfl | (simp; done) | (simp [*]; done)), H', ⟨Nat.le_refl _⟩, ⟨by repeat (first | (with_reducible first | exact HB.out | apply below_alloc | apply pw_below_drewN | apply below_drew1) | exact HB.out)⟩⟩
    case round =>
      clear H'
      try clear c1
      try clear p2
      try clear c3
      try clear c3b0
      try clear c3b1
      obtain ⟨x5_1, rfl, HA, HK1, HB⟩ := hrel
      cases gk with
      | zero => exact absurd HA.out (by simp [insolvencyref25_Check.l0])
      | succ k1 =>
        have H := HA.out
        clear HA
        simp only [insolvencyref25_Check.l0] at H
        by_cases c4 : x5_1 < (l1.length : Int)
        · rw [if_pos c4] at H
          have c4b0 : decide (x5_1 < (l1.length : Int)) = true := decide_eq_true c4
          clear c4
          by_cases c5 : 0 ≤ x5_1
          · rw [if_pos c5] at H
            have c5b0 : decide (0 ≤ x5_1) = true := decide_eq_true c5
            clear c5
            have HC6 := Aside0.mk H
            clear H
            have p133 : 0 ≤ (x5_1 : Int) := of_decide_eq_true (by first | (with_reducible assumption) | assumption)
            have q133 : x5_1 < (l1.length : Int) := of_decide_eq_true (by first | (with_reducible assumption) | assumption)
            obtain ⟨ad133, e133, hx133_0, hx133_1, hx133_2, hx133_3, hx133_4, hx133_5⟩ := at_T36 HR1.out x5_1 p133 q133
            cases e133
            replace hx133_0 := (HB.out.cell (World.block_lt_of_cell? w _ hx133_0)).trans hx133_0
            replace hx133_1 := (HB.out.cell (World.block_lt_of_cell? w _ hx133_1)).trans hx133_1
            replace hx133_2 := (HB.out.cell (World.block_lt_of_cell? w _ hx133_2)).trans hx133_2
            replace hx133_3 := (HB.out.cell (World.block_lt_of_cell? w _ hx133_3)).trans hx133_3
            replace hx133_4 := (HB.out.cell (World.block_lt_of_cell? w _ hx133_4)).trans hx133_4
            replace hx133_5 := (HB.out.cell (World.block_lt_of_cell? w _ hx133_5)).trans hx133_5
            replace p133 := eq_true p133
            replace q133 := eq_true q133
            go_upto_region 7 with (first | ((with_reducible refine gate_dst (N := 6) rfl ?_); refine box_event ?hg (N := 6) ?hd (cs := #[.int .i64 0, .int .i64 0, .int .i64 0, .int .i64 0, .int .i64 0, .int .i64 0]) (t := 36) ?hr ?_; (case hd => rfl); (case hg => rfl); (case hr => first | (go_simp; done) | (go_simp; rfl)); intro gb134 hg w7 hbox hb; have n0_ := Aside0.mk (below_step (by repeat (first | (with_reducible first | exact HB.out | apply below_alloc | apply pw_below_drewN | apply below_drew1) | exact HB.out)) hb); have n1_ := Aside0.mk (hbox); have n2_ := Aside0.mk ((by rw [hg]; exact (below_size (by repeat (first | (with_reducible first | exact HB.out | apply below_alloc | apply pw_below_drewN | apply below_drew1) | exact HB.out))) : w.heap.size ≤ gb134)); have n3_ := Aside0.mk ((by rw [hg]; exact (below_size (by repeat (first | (with_reducible first | exact HB.out | apply below_alloc | apply pw_below_drewN | apply below_drew1) | exact HB.out))) : w.heap.size ≤ gb134)); clear HB; have HB := n0_; have BK134 := n1_; have GW134 := n2_; have GE134 := n3_; clear n0_ n1_ n2_ n3_; clear hb hbox hg; have hcz8_0 : w7.cell? ⟨gb134, 0, none⟩ = some (.int .i64 0) := (blk_cell BK134.out 0).trans rfl; have hcz8_1 : w7.cell? ⟨gb134, 1, none⟩ = some (.int .i64 0) := (blk_cell BK134.out 1).trans rfl; have hcz8_2 : w7.cell? ⟨gb134, 2, none⟩ = some (.int .i64 0) := (blk_cell BK134.out 2).trans rfl; have hcz8_3 : w7.cell? ⟨gb134, 3, none⟩ = some (.int .i64 0) := (blk_cell BK134.out 3).trans rfl; have hcz8_4 : w7.cell? ⟨gb134, 4, none⟩ = some (.int .i64 0) := (blk_cell BK134.out 4).trans rfl; have hcz8_5 : w7.cell? ⟨gb134, 5, none⟩ = some (.int .i64 0) := (blk_cell BK134.out 5).trans rfl; have hfz8_0 := blk_frozen BK134.out 0; have hfz8_1 := blk_frozen BK134.out 1; have hfz8_2 := blk_frozen BK134.out 2; have hfz8_3 := blk_frozen BK134.out 3; have hfz8_4 := blk_frozen BK134.out 4; have hfz8_5 := blk_frozen BK134.out 5))
            repeat (go_quiet (first | ((with_reducible refine gate_dst (N := 6) rfl ?_); refine box_event ?hg (N := 6) ?hd (cs := #[.int .i64 0, .int .i64 0, .int .i64 0, .int .i64 0, .int .i64 0, .int .i64 0]) (t := 36) ?hr ?_; (case hd => rfl); (case hg => rfl); (case hr => first | (go_simp; done) | (go_simp; rfl)); intro gb134 hg w7 hbox hb; have n0_ := Aside0.mk (below_step (by repeat (first | (with_reducible first | exact HB.out | apply below_alloc | apply pw_below_drewN | apply below_drew1) | exact HB.out)) hb); have n1_ := Aside0.mk (hbox); have n2_ := Aside0.mk ((by rw [hg]; exact (below_size (by repeat (first | (with_reducible first | exact HB.out | apply below_alloc | apply pw_below_drewN | apply below_drew1) | exact HB.out))) : w.heap.size ≤ gb134)); have n3_ := Aside0.mk ((by rw [hg]; exact (below_size (by repeat (first | (with_reducible first | exact HB.out | apply below_alloc | apply pw_below_drewN | apply below_drew1) | exact HB.out))) : w.heap.size ≤ gb134)); clear HB; have HB := n0_; have BK134 := n1_; have GW134 := n2_; have GE134 := n3_; clear n0_ n1_ n2_ n3_; clear hb hbox hg; have hcz8_0 : w7.cell? ⟨gb134, 0, none⟩ = some (.int .i64 0) := (blk_cell BK134.out 0).trans rfl; have hcz8_1 : w7.cell? ⟨gb134, 1, none⟩ = some (.int .i64 0) := (blk_cell BK134.out 1).trans rfl; have hcz8_2 : w7.cell? ⟨gb134, 2, none⟩ = some (.int .i64 0) := (blk_cell BK134.out 2).trans rfl; have hcz8_3 : w7.cell? ⟨gb134, 3, none⟩ = some (.int .i64 0) := (blk_cell BK134.out 3).trans rfl; have hcz8_4 : w7.cell? ⟨gb134, 4, none⟩ = some (.int .i64 0) := (blk_cell BK134.out 4).trans rfl; have hcz8_5 : w7.cell? ⟨gb134, 5, none⟩ = some (.int .i64 0) := (blk_cell BK134.out 5).trans rfl; have hfz8_0 := blk_frozen BK134.out 0; have hfz8_1 := blk_frozen BK134.out 1; have hfz8_2 := blk_frozen BK134.out 2; have hfz8_3 := blk_frozen BK134.out 3; have hfz8_4 := blk_frozen BK134.out 4; have hfz8_5 := blk_frozen BK134.out 5)); go_upto_region 7 with (first | ((with_reducible refine gate_dst (N := 6) rfl ?_); refine box_event ?hg (N := 6) ?hd (cs := #[.int .i64 0, .int .i64 0, .int .i64 0, .int .i64 0, .int .i64 0, .int .i64 0]) (t := 36) ?hr ?_; (case hd => rfl); (case hg => rfl); (case hr => first | (go_simp; done) | (go_simp; rfl)); intro gb134 hg w7 hbox hb; have n0_ := Aside0.mk (below_step (by repeat (first | (with_reducible first | exact HB.out | apply below_alloc | apply pw_below_drewN | apply below_drew1) | exact HB.out)) hb); have n1_ := Aside0.mk (hbox); have n2_ := Aside0.mk ((by rw [hg]; exact (below_size (by repeat (first | (with_reducible first | exact HB.out | apply below_alloc | apply pw_below_drewN | apply below_drew1) | exact HB.out))) : w.heap.size ≤ gb134)); have n3_ := Aside0.mk ((by rw [hg]; exact (below_size (by repeat (first | (with_reducible first | exact HB.out | apply below_alloc | apply pw_below_drewN | apply below_drew1) | exact HB.out))) : w.heap.size ≤ gb134)); clear HB; have HB := n0_; have BK134 := n1_; have GW134 := n2_; have GE134 := n3_; clear n0_ n1_ n2_ n3_; clear hb hbox hg; have hcz8_0 : w7.cell? ⟨gb134, 0, none⟩ = some (.int .i64 0) := (blk_cell BK134.out 0).trans rfl; have hcz8_1 : w7.cell? ⟨gb134, 1, none⟩ = some (.int .i64 0) := (blk_cell BK134.out 1).trans rfl; have hcz8_2 : w7.cell? ⟨gb134, 2, none⟩ = some (.int .i64 0) := (blk_cell BK134.out 2).trans rfl; have hcz8_3 : w7.cell? ⟨gb134, 3, none⟩ = some (.int .i64 0) := (blk_cell BK134.out 3).trans rfl; have hcz8_4 : w7.cell? ⟨gb134, 4, none⟩ = some (.int .i64 0) := (blk_cell BK134.out 4).trans rfl; have hcz8_5 : w7.cell? ⟨gb134, 5, none⟩ = some (.int .i64 0) := (blk_cell BK134.out 5).trans rfl; have hfz8_0 := blk_frozen BK134.out 0; have hfz8_1 := blk_frozen BK134.out 1; have hfz8_2 := blk_frozen BK134.out 2; have hfz8_3 := blk_frozen BK134.out 3; have hfz8_4 := blk_frozen BK134.out 4; have hfz8_5 := blk_frozen BK134.out 5)))
            (try simp only [Act.put, List.setIfInBounds_toArray, List.set_cons_zero, List.set_cons_succ])
            go_cut [55] (fun v55 wc => ∃ (kq : Nat) (x55_5 : Bool), v55 = .bool x55_5 ∧ Aside0 (insolvencyref25_Check.j1 kq a0 l1 x5_1 x55_5 ((rd_T36 l1 x5_1).f0) ((rd_T36 l1 x5_1).f1) ((rd_T36 l1 x5_1).f2) ((rd_T36 l1 x5_1).f3) ((rd_T36 l1 x5_1).f4) ((rd_T36 l1 x5_1).f5) = some r) ∧ Aside0 (kq ≤ k1) ∧ Aside0 (wc.heap[gb134]? = some (.cells #[.int .i64 ((rd_T36 l1 x5_1).f0), .int .i64 ((rd_T36 l1 x5_1).f1), .int .i64 ((rd_T36 l1 x5_1).f2), .int .i64 ((rd_T36 l1 x5_1).f3), .int .i64 ((rd_T36 l1 x5_1).f4), .int .i64 ((rd_T36 l1 x5_1).f5)] 36 (0, 0))) ∧ Aside0 (Below w.heap.size w wc))
            case first =>
              have H := HC6.out
              clear HC6
              replace H := Option.bind_eq_some_iff.mp H
              obtain ⟨t135, A90, H⟩ := H
              replace H : (if t135 = true then (if ((rd_T36 l1 x5_1).f1) < 1 then (insolvencyref25_Check.j1 k1 a0 l1 x5_1 true ((rd_T36 l1 x5_1).f0) ((rd_T36 l1 x5_1).f1) ((rd_T36 l1 x5_1).f2) ((rd_T36 l1 x5_1).f3) ((rd_T36 l1 x5_1).f4) ((rd_T36 l1 x5_1).f5)) else (if ((rd_T36 l1 x5_1).f1) > 3 then (insolvencyref25_Check.j1 k1 a0 l1 x5_1 true ((rd_T36 l1 x5_1).f0) ((rd_T36 l1 x5_1).f1) ((rd_T36 l1 x5_1).f2) ((rd_T36 l1 x5_1).f3) ((rd_T36 l1 x5_1).f4) ((rd_T36 l1 x5_1).f5)) else ((insolvencyref25_cents.f ((rd_T36 l1 x5_1).f4)).bind fun t136 => (if t136 = true then ((insolvencyref25_cents.f ((rd_T36 l1 x5_1).f5)).bind fun t137 => (if t137 = true then (if ((rd_T36 l1 x5_1).f5) = 0 then (insolvencyref25_Check.j1 k1 a0 l1 x5_1 false ((rd_T36 l1 x5_1).f0) ((rd_T36 l1 x5_1).f1) ((rd_T36 l1 x5_1).f2) ((rd_T36 l1 x5_1).f3) ((rd_T36 l1 x5_1).f4) ((rd_T36 l1 x5_1).f5)) else (insolvencyref25_Check.j1 k1 a0 l1 x5_1 (((rd_T36 l1 x5_1).f1) != 3) ((rd_T36 l1 x5_1).f0) ((rd_T36 l1 x5_1).f1) ((rd_T36 l1 x5_1).f2) ((rd_T36 l1 x5_1).f3) ((rd_T36 l1 x5_1).f4) ((rd_T36 l1 x5_1).f5))) else (insolvencyref25_Check.j1 k1 a0 l1 x5_1 true ((rd_T36 l1 x5_1).f0) ((rd_T36 l1 x5_1).f1) ((rd_T36 l1 x5_1).f2) ((rd_T36 l1 x5_1).f3) ((rd_T36 l1 x5_1).f4) ((rd_T36 l1 x5_1).f5)))) else (insolvencyref25_Check.j1 k1 a0 l1 x5_1 true ((rd_T36 l1 x5_1).f0) ((rd_T36 l1 x5_1).f1) ((rd_T36 l1 x5_1).f2) ((rd_T36 l1 x5_1).f3) ((rd_T36 l1 x5_1).f4) ((rd_T36 l1 x5_1).f5)))))) else (insolvencyref25_Check.j1 k1 a0 l1 x5_1 true ((rd_T36 l1 x5_1).f0) ((rd_T36 l1 x5_1).f1) ((rd_T36 l1 x5_1).f2) ((rd_T36 l1 x5_1).f3) ((rd_T36 l1 x5_1).f4) ((rd_T36 l1 x5_1).f5))) = some r := H
              have A9 := Aside0.mk A90
              clear A90
              by_cases c10 : t135 = true
              · subst c10
                have H1 : (if ((rd_T36 l1 x5_1).f1) < 1 then (insolvencyref25_Check.j1 k1 a0 l1 x5_1 true ((rd_T36 l1 x5_1).f0) ((rd_T36 l1 x5_1).f1) ((rd_T36 l1 x5_1).f2) ((rd_T36 l1 x5_1).f3) ((rd_T36 l1 x5_1).f4) ((rd_T36 l1 x5_1).f5)) else (if ((rd_T36 l1 x5_1).f1) > 3 then (insolvencyref25_Check.j1 k1 a0 l1 x5_1 true ((rd_T36 l1 x5_1).f0) ((rd_T36 l1 x5_1).f1) ((rd_T36 l1 x5_1).f2) ((rd_T36 l1 x5_1).f3) ((rd_T36 l1 x5_1).f4) ((rd_T36 l1 x5_1).f5)) else ((insolvencyref25_cents.f ((rd_T36 l1 x5_1).f4)).bind fun t136 => (if t136 = true then ((insolvencyref25_cents.f ((rd_T36 l1 x5_1).f5)).bind fun t137 => (if t137 = true then (if ((rd_T36 l1 x5_1).f5) = 0 then (insolvencyref25_Check.j1 k1 a0 l1 x5_1 false ((rd_T36 l1 x5_1).f0) ((rd_T36 l1 x5_1).f1) ((rd_T36 l1 x5_1).f2) ((rd_T36 l1 x5_1).f3) ((rd_T36 l1 x5_1).f4) ((rd_T36 l1 x5_1).f5)) else (insolvencyref25_Check.j1 k1 a0 l1 x5_1 (((rd_T36 l1 x5_1).f1) != 3) ((rd_T36 l1 x5_1).f0) ((rd_T36 l1 x5_1).f1) ((rd_T36 l1 x5_1).f2) ((rd_T36 l1 x5_1).f3) ((rd_T36 l1 x5_1).f4) ((rd_T36 l1 x5_1).f5))) else (insolvencyref25_Check.j1 k1 a0 l1 x5_1 true ((rd_T36 l1 x5_1).f0) ((rd_T36 l1 x5_1).f1) ((rd_T36 l1 x5_1).f2) ((rd_T36 l1 x5_1).f3) ((rd_T36 l1 x5_1).f4) ((rd_T36 l1 x5_1).f5)))) else (insolvencyref25_Check.j1 k1 a0 l1 x5_1 true ((rd_T36 l1 x5_1).f0) ((rd_T36 l1 x5_1).f1) ((rd_T36 l1 x5_1).f2) ((rd_T36 l1 x5_1).f3) ((rd_T36 l1 x5_1).f4) ((rd_T36 l1 x5_1).f5)))))) = some r := by rw [if_pos rfl] at H; exact H
                clear H
                have H := H1
                clear H1
                by_cases c11 : ((rd_T36 l1 x5_1).f1) < 1
                · rw [if_pos c11] at H
                  have c11b0 : decide (((rd_T36 l1 x5_1).f1) < 1) = true := decide_eq_true c11
                  clear c11
                  (first | rw [c11b0] | (simp only [i64_w, i32_w]; rw [c11b0]) | rw [c11b1] | skip)
                  have H' := Aside0.mk H
                  clear H
                  have hcz12_0 : w7.cell? ⟨gb134, 0, none⟩ = some (.int .i64 0) := (blk_cell BK134.out 0).trans rfl
                  have hcz12_1 : w7.cell? ⟨gb134, 1, none⟩ = some (.int .i64 0) := (blk_cell BK134.out 1).trans rfl
                  have hcz12_2 : w7.cell? ⟨gb134, 2, none⟩ = some (.int .i64 0) := (blk_cell BK134.out 2).trans rfl
                  have hcz12_3 : w7.cell? ⟨gb134, 3, none⟩ = some (.int .i64 0) := (blk_cell BK134.out 3).trans rfl
                  have hcz12_4 : w7.cell? ⟨gb134, 4, none⟩ = some (.int .i64 0) := (blk_cell BK134.out 4).trans rfl
                  have hcz12_5 : w7.cell? ⟨gb134, 5, none⟩ = some (.int .i64 0) := (blk_cell BK134.out 5).trans rfl
                  have hfz12_0 := blk_frozen BK134.out 0
                  have hfz12_1 := blk_frozen BK134.out 1
                  have hfz12_2 := blk_frozen BK134.out 2
                  have hfz12_3 := blk_frozen BK134.out 3
                  have hfz12_4 := blk_frozen BK134.out 4
                  have hfz12_5 := blk_frozen BK134.out 5
                  go_wp2_with (first | (go_at_call 47; (with_reducible refine (insolvencyref25_day.calls ((rd_T36 l1 x5_1).f0) true _ A9.out).mono ?_); rintro e w' ⟨rfl, ⟨nd, rfl⟩⟩; (try first | exact ⟨rfl, _, World.drewN_drewN _ _ _⟩ | exact ⟨rfl, _, Eq.trans (World.drewN_drewN _ _ _) (congrArg (World.drewN _) (Nat.add_assoc _ _ _))⟩)))
                  repeat (go_quiet (first | (go_at_call 47; (with_reducible refine (insolvencyref25_day.calls ((rd_T36 l1 x5_1).f0) true _ A9.out).mono ?_); rintro e w' ⟨rfl, ⟨nd, rfl⟩⟩; (try first | exact ⟨rfl, _, World.drewN_drewN _ _ _⟩ | exact ⟨rfl, _, Eq.trans (World.drewN_drewN _ _ _) (congrArg (World.drewN _) (Nat.add_assoc _ _ _))⟩))); try go_wp2_with (first | (go_at_call 47; (with_reducible refine (insolvencyref25_day.calls ((rd_T36 l1 x5_1).f0) true _ A9.out).mono ?_); rintro e w' ⟨rfl, ⟨nd, rfl⟩⟩; (try first | exact ⟨rfl, _, World.drewN_drewN _ _ _⟩ | exact ⟨rfl, _, Eq.trans (World.drewN_drewN _ _ _) (congrArg (World.drewN _) (Nat.add_assoc _ _ _))⟩))))
                  go_meet
                  case rel => exact ⟨_, (true), (by first | rfl | (simp; done) | (simp [*]; done)), H', ⟨by have := HK1.out; first | omega | exact Nat.le_refl _⟩, ⟨by (with_reducible repeat (first | refine blk_drewN ?_ _ | refine blk_drew ?_ | refine blk_alloc ?_ _)); refine blk_put (cs := #[.int .i64 ((rd_T36 l1 x5_1).f0), .int .i64 ((rd_T36 l1 x5_1).f1), .int .i64 ((rd_T36 l1 x5_1).f2), .int .i64 ((rd_T36 l1 x5_1).f3), .int .i64 ((rd_T36 l1 x5_1).f4), .int .i64 0]) ?_ 5 _ rfl; (with_reducible repeat (first | refine blk_drewN ?_ _ | refine blk_drew ?_ | refine blk_alloc ?_ _)); refine blk_put (cs := #[.int .i64 ((rd_T36 l1 x5_1).f0), .int .i64 ((rd_T36 l1 x5_1).f1), .int .i64 ((rd_T36 l1 x5_1).f2), .int .i64 ((rd_T36 l1 x5_1).f3), .int .i64 0, .int .i64 0]) ?_ 4 _ rfl; (with_reducible repeat (first | refine blk_drewN ?_ _ | refine blk_drew ?_ | refine blk_alloc ?_ _)); refine blk_put (cs := #[.int .i64 ((rd_T36 l1 x5_1).f0), .int .i64 ((rd_T36 l1 x5_1).f1), .int .i64 ((rd_T36 l1 x5_1).f2), .int .i64 0, .int .i64 0, .int .i64 0]) ?_ 3 _ rfl; (with_reducible repeat (first | refine blk_drewN ?_ _ | refine blk_drew ?_ | refine blk_alloc ?_ _)); refine blk_put (cs := #[.int .i64 ((rd_T36 l1 x5_1).f0), .int .i64 ((rd_T36 l1 x5_1).f1), .int .i64 0, .int .i64 0, .int .i64 0, .int .i64 0]) ?_ 2 _ rfl; (with_reducible repeat (first | refine blk_drewN ?_ _ | refine blk_drew ?_ | refine blk_alloc ?_ _)); refine blk_put (cs := #[.int .i64 ((rd_T36 l1 x5_1).f0), .int .i64 0, .int .i64 0, .int .i64 0, .int .i64 0, .int .i64 0]) ?_ 1 _ rfl; (with_reducible repeat (first | refine blk_drewN ?_ _ | refine blk_drew ?_ | refine blk_alloc ?_ _)); refine blk_put (cs := #[.int .i64 0, .int .i64 0, .int .i64 0, .int .i64 0, .int .i64 0, .int .i64 0]) ?_ 0 _ rfl; (with_reducible repeat (first | refine blk_drewN ?_ _ | refine blk_drew ?_ | refine blk_alloc ?_ _)); exact BK134.out⟩, ⟨by repeat (first | (with_reducible first | exact HB.out | apply below_alloc | apply pw_below_drewN | apply below_drew1 | refine below_set ?_ GE134.out) | exact HB.out)⟩⟩
                · rw [if_neg c11] at H
                  have c11b0 : decide (((rd_T36 l1 x5_1).f1) < 1) = false := decide_eq_false c11
                  clear c11
                  (first | rw [c11b0] | (simp only [i64_w, i32_w]; rw [c11b0]) | rw [c11b1] | skip)
                  by_cases c13 : ((rd_T36 l1 x5_1).f1) > 3
                  · rw [if_pos c13] at H
                    have c13b0 : decide (3 < ((rd_T36 l1 x5_1).f1)) = true := decide_eq_true c13
                    clear c13
                    have H' := Aside0.mk H
                    clear H
                    have hcz14_0 : w7.cell? ⟨gb134, 0, none⟩ = some (.int .i64 0) := (blk_cell BK134.out 0).trans rfl
                    have hcz14_1 : w7.cell? ⟨gb134, 1, none⟩ = some (.int .i64 0) := (blk_cell BK134.out 1).trans rfl
                    have hcz14_2 : w7.cell? ⟨gb134, 2, none⟩ = some (.int .i64 0) := (blk_cell BK134.out 2).trans rfl
                    have hcz14_3 : w7.cell? ⟨gb134, 3, none⟩ = some (.int .i64 0) := (blk_cell BK134.out 3).trans rfl
                    have hcz14_4 : w7.cell? ⟨gb134, 4, none⟩ = some (.int .i64 0) := (blk_cell BK134.out 4).trans rfl
                    have hcz14_5 : w7.cell? ⟨gb134, 5, none⟩ = some (.int .i64 0) := (blk_cell BK134.out 5).trans rfl
                    have hfz14_0 := blk_frozen BK134.out 0
                    have hfz14_1 := blk_frozen BK134.out 1
                    have hfz14_2 := blk_frozen BK134.out 2
                    have hfz14_3 := blk_frozen BK134.out 3
                    have hfz14_4 := blk_frozen BK134.out 4
                    have hfz14_5 := blk_frozen BK134.out 5
                    go_wp2_with (first | (go_at_call 47; (with_reducible refine (insolvencyref25_day.calls ((rd_T36 l1 x5_1).f0) true _ A9.out).mono ?_); rintro e w' ⟨rfl, ⟨nd, rfl⟩⟩; (try first | exact ⟨rfl, _, World.drewN_drewN _ _ _⟩ | exact ⟨rfl, _, Eq.trans (World.drewN_drewN _ _ _) (congrArg (World.drewN _) (Nat.add_assoc _ _ _))⟩)))
                    repeat (go_quiet (first | (go_at_call 47; (with_reducible refine (insolvencyref25_day.calls ((rd_T36 l1 x5_1).f0) true _ A9.out).mono ?_); rintro e w' ⟨rfl, ⟨nd, rfl⟩⟩; (try first | exact ⟨rfl, _, World.drewN_drewN _ _ _⟩ | exact ⟨rfl, _, Eq.trans (World.drewN_drewN _ _ _) (congrArg (World.drewN _) (Nat.add_assoc _ _ _))⟩))); try go_wp2_with (first | (go_at_call 47; (with_reducible refine (insolvencyref25_day.calls ((rd_T36 l1 x5_1).f0) true _ A9.out).mono ?_); rintro e w' ⟨rfl, ⟨nd, rfl⟩⟩; (try first | exact ⟨rfl, _, World.drewN_drewN _ _ _⟩ | exact ⟨rfl, _, Eq.trans (World.drewN_drewN _ _ _) (congrArg (World.drewN _) (Nat.add_assoc _ _ _))⟩))))
                    go_meet
                    case rel => exact ⟨_, (true), (by first | rfl | (simp; done) | (simp [*]; done)), H', ⟨by have := HK1.out; first | omega | exact Nat.le_refl _⟩, ⟨by (with_reducible repeat (first | refine blk_drewN ?_ _ | refine blk_drew ?_ | refine blk_alloc ?_ _)); refine blk_put (cs := #[.int .i64 ((rd_T36 l1 x5_1).f0), .int .i64 ((rd_T36 l1 x5_1).f1), .int .i64 ((rd_T36 l1 x5_1).f2), .int .i64 ((rd_T36 l1 x5_1).f3), .int .i64 ((rd_T36 l1 x5_1).f4), .int .i64 0]) ?_ 5 _ rfl; (with_reducible repeat (first | refine blk_drewN ?_ _ | refine blk_drew ?_ | refine blk_alloc ?_ _)); refine blk_put (cs := #[.int .i64 ((rd_T36 l1 x5_1).f0), .int .i64 ((rd_T36 l1 x5_1).f1), .int .i64 ((rd_T36 l1 x5_1).f2), .int .i64 ((rd_T36 l1 x5_1).f3), .int .i64 0, .int .i64 0]) ?_ 4 _ rfl; (with_reducible repeat (first | refine blk_drewN ?_ _ | refine blk_drew ?_ | refine blk_alloc ?_ _)); refine blk_put (cs := #[.int .i64 ((rd_T36 l1 x5_1).f0), .int .i64 ((rd_T36 l1 x5_1).f1), .int .i64 ((rd_T36 l1 x5_1).f2), .int .i64 0, .int .i64 0, .int .i64 0]) ?_ 3 _ rfl; (with_reducible repeat (first | refine blk_drewN ?_ _ | refine blk_drew ?_ | refine blk_alloc ?_ _)); refine blk_put (cs := #[.int .i64 ((rd_T36 l1 x5_1).f0), .int .i64 ((rd_T36 l1 x5_1).f1), .int .i64 0, .int .i64 0, .int .i64 0, .int .i64 0]) ?_ 2 _ rfl; (with_reducible repeat (first | refine blk_drewN ?_ _ | refine blk_drew ?_ | refine blk_alloc ?_ _)); refine blk_put (cs := #[.int .i64 ((rd_T36 l1 x5_1).f0), .int .i64 0, .int .i64 0, .int .i64 0, .int .i64 0, .int .i64 0]) ?_ 1 _ rfl; (with_reducible repeat (first | refine blk_drewN ?_ _ | refine blk_drew ?_ | refine blk_alloc ?_ _)); refine blk_put (cs := #[.int .i64 0, .int .i64 0, .int .i64 0, .int .i64 0, .int .i64 0, .int .i64 0]) ?_ 0 _ rfl; (with_reducible repeat (first | refine blk_drewN ?_ _ | refine blk_drew ?_ | refine blk_alloc ?_ _)); exact BK134.out⟩, ⟨by repeat (first | (with_reducible first | exact HB.out | apply below_alloc | apply pw_below_drewN | apply below_drew1 | refine below_set ?_ GE134.out) | exact HB.out)⟩⟩
                  · rw [if_neg c13] at H
                    have c13b0 : decide (3 < ((rd_T36 l1 x5_1).f1)) = false := decide_eq_false c13
                    clear c13
                    replace H := Option.bind_eq_some_iff.mp H
                    obtain ⟨t136, A150, H⟩ := H
                    replace H : (if t136 = true then ((insolvencyref25_cents.f ((rd_T36 l1 x5_1).f5)).bind fun t137 => (if t137 = true then (if ((rd_T36 l1 x5_1).f5) = 0 then (insolvencyref25_Check.j1 k1 a0 l1 x5_1 false ((rd_T36 l1 x5_1).f0) ((rd_T36 l1 x5_1).f1) ((rd_T36 l1 x5_1).f2) ((rd_T36 l1 x5_1).f3) ((rd_T36 l1 x5_1).f4) ((rd_T36 l1 x5_1).f5)) else (insolvencyref25_Check.j1 k1 a0 l1 x5_1 (((rd_T36 l1 x5_1).f1) != 3) ((rd_T36 l1 x5_1).f0) ((rd_T36 l1 x5_1).f1) ((rd_T36 l1 x5_1).f2) ((rd_T36 l1 x5_1).f3) ((rd_T36 l1 x5_1).f4) ((rd_T36 l1 x5_1).f5))) else (insolvencyref25_Check.j1 k1 a0 l1 x5_1 true ((rd_T36 l1 x5_1).f0) ((rd_T36 l1 x5_1).f1) ((rd_T36 l1 x5_1).f2) ((rd_T36 l1 x5_1).f3) ((rd_T36 l1 x5_1).f4) ((rd_T36 l1 x5_1).f5)))) else (insolvencyref25_Check.j1 k1 a0 l1 x5_1 true ((rd_T36 l1 x5_1).f0) ((rd_T36 l1 x5_1).f1) ((rd_T36 l1 x5_1).f2) ((rd_T36 l1 x5_1).f3) ((rd_T36 l1 x5_1).f4) ((rd_T36 l1 x5_1).f5))) = some r := H
                    have A15 := Aside0.mk A150
                    clear A150
                    by_cases c16 : t136 = true
                    · subst c16
                      have H1 : ((insolvencyref25_cents.f ((rd_T36 l1 x5_1).f5)).bind fun t137 => (if t137 = true then (if ((rd_T36 l1 x5_1).f5) = 0 then (insolvencyref25_Check.j1 k1 a0 l1 x5_1 false ((rd_T36 l1 x5_1).f0) ((rd_T36 l1 x5_1).f1) ((rd_T36 l1 x5_1).f2) ((rd_T36 l1 x5_1).f3) ((rd_T36 l1 x5_1).f4) ((rd_T36 l1 x5_1).f5)) else (insolvencyref25_Check.j1 k1 a0 l1 x5_1 (((rd_T36 l1 x5_1).f1) != 3) ((rd_T36 l1 x5_1).f0) ((rd_T36 l1 x5_1).f1) ((rd_T36 l1 x5_1).f2) ((rd_T36 l1 x5_1).f3) ((rd_T36 l1 x5_1).f4) ((rd_T36 l1 x5_1).f5))) else (insolvencyref25_Check.j1 k1 a0 l1 x5_1 true ((rd_T36 l1 x5_1).f0) ((rd_T36 l1 x5_1).f1) ((rd_T36 l1 x5_1).f2) ((rd_T36 l1 x5_1).f3) ((rd_T36 l1 x5_1).f4) ((rd_T36 l1 x5_1).f5)))) = some r := by rw [if_pos rfl] at H; exact H
                      clear H
                      have H := H1
                      clear H1
                      replace H := Option.bind_eq_some_iff.mp H
                      obtain ⟨t137, A170, H⟩ := H
                      replace H : (if t137 = true then (if ((rd_T36 l1 x5_1).f5) = 0 then (insolvencyref25_Check.j1 k1 a0 l1 x5_1 false ((rd_T36 l1 x5_1).f0) ((rd_T36 l1 x5_1).f1) ((rd_T36 l1 x5_1).f2) ((rd_T36 l1 x5_1).f3) ((rd_T36 l1 x5_1).f4) ((rd_T36 l1 x5_1).f5)) else (insolvencyref25_Check.j1 k1 a0 l1 x5_1 (((rd_T36 l1 x5_1).f1) != 3) ((rd_T36 l1 x5_1).f0) ((rd_T36 l1 x5_1).f1) ((rd_T36 l1 x5_1).f2) ((rd_T36 l1 x5_1).f3) ((rd_T36 l1 x5_1).f4) ((rd_T36 l1 x5_1).f5))) else (insolvencyref25_Check.j1 k1 a0 l1 x5_1 true ((rd_T36 l1 x5_1).f0) ((rd_T36 l1 x5_1).f1) ((rd_T36 l1 x5_1).f2) ((rd_T36 l1 x5_1).f3) ((rd_T36 l1 x5_1).f4) ((rd_T36 l1 x5_1).f5))) = some r := H
                      have A17 := Aside0.mk A170
                      clear A170
                      by_cases c18 : t137 = true
                      · subst c18
                        have H1 : (if ((rd_T36 l1 x5_1).f5) = 0 then (insolvencyref25_Check.j1 k1 a0 l1 x5_1 false ((rd_T36 l1 x5_1).f0) ((rd_T36 l1 x5_1).f1) ((rd_T36 l1 x5_1).f2) ((rd_T36 l1 x5_1).f3) ((rd_T36 l1 x5_1).f4) ((rd_T36 l1 x5_1).f5)) else (insolvencyref25_Check.j1 k1 a0 l1 x5_1 (((rd_T36 l1 x5_1).f1) != 3) ((rd_T36 l1 x5_1).f0) ((rd_T36 l1 x5_1).f1) ((rd_T36 l1 x5_1).f2) ((rd_T36 l1 x5_1).f3) ((rd_T36 l1 x5_1).f4) ((rd_T36 l1 x5_1).f5))) = some r := by rw [if_pos rfl] at H; exact H
                        clear H
                        have H := H1
                        clear H1
                        by_cases c19 : ((rd_T36 l1 x5_1).f5) = 0
                        · rw [if_pos c19] at H
                          have c19b0 : (((rd_T36 l1 x5_1).f5) == 0) = true := beq_iff_eq.mpr c19
                          have c19b1 : (((rd_T36 l1 x5_1).f5) != 0) = false := bne_eq_false_iff_eq.mpr c19
                          clear c19
                          have H' := Aside0.mk H
                          clear H
                          have hcz20_0 : w7.cell? ⟨gb134, 0, none⟩ = some (.int .i64 0) := (blk_cell BK134.out 0).trans rfl
                          have hcz20_1 : w7.cell? ⟨gb134, 1, none⟩ = some (.int .i64 0) := (blk_cell BK134.out 1).trans rfl
                          have hcz20_2 : w7.cell? ⟨gb134, 2, none⟩ = some (.int .i64 0) := (blk_cell BK134.out 2).trans rfl
                          have hcz20_3 : w7.cell? ⟨gb134, 3, none⟩ = some (.int .i64 0) := (blk_cell BK134.out 3).trans rfl
                          have hcz20_4 : w7.cell? ⟨gb134, 4, none⟩ = some (.int .i64 0) := (blk_cell BK134.out 4).trans rfl
                          have hcz20_5 : w7.cell? ⟨gb134, 5, none⟩ = some (.int .i64 0) := (blk_cell BK134.out 5).trans rfl
                          have hfz20_0 := blk_frozen BK134.out 0
                          have hfz20_1 := blk_frozen BK134.out 1
                          have hfz20_2 := blk_frozen BK134.out 2
                          have hfz20_3 := blk_frozen BK134.out 3
                          have hfz20_4 := blk_frozen BK134.out 4
                          have hfz20_5 := blk_frozen BK134.out 5
                          go_wp2_with (first | (go_at_call 47; (with_reducible refine (insolvencyref25_day.calls ((rd_T36 l1 x5_1).f0) true _ A9.out).mono ?_); rintro e w' ⟨rfl, ⟨nd, rfl⟩⟩; (try first | exact ⟨rfl, _, World.drewN_drewN _ _ _⟩ | exact ⟨rfl, _, Eq.trans (World.drewN_drewN _ _ _) (congrArg (World.drewN _) (Nat.add_assoc _ _ _))⟩)) | (go_at_call 48; (with_reducible refine (insolvencyref25_cents.calls ((rd_T36 l1 x5_1).f4) true _ A15.out).mono ?_); rintro e w' ⟨rfl, ⟨nd, rfl⟩⟩; (try first | exact ⟨rfl, _, World.drewN_drewN _ _ _⟩ | exact ⟨rfl, _, Eq.trans (World.drewN_drewN _ _ _) (congrArg (World.drewN _) (Nat.add_assoc _ _ _))⟩)) | (go_at_call 48; (with_reducible refine (insolvencyref25_cents.calls ((rd_T36 l1 x5_1).f5) true _ A17.out).mono ?_); rintro e w' ⟨rfl, ⟨nd, rfl⟩⟩; (try first | exact ⟨rfl, _, World.drewN_drewN _ _ _⟩ | exact ⟨rfl, _, Eq.trans (World.drewN_drewN _ _ _) (congrArg (World.drewN _) (Nat.add_assoc _ _ _))⟩)))
                          repeat (go_quiet (first | (go_at_call 47; (with_reducible refine (insolvencyref25_day.calls ((rd_T36 l1 x5_1).f0) true _ A9.out).mono ?_); rintro e w' ⟨rfl, ⟨nd, rfl⟩⟩; (try first | exact ⟨rfl, _, World.drewN_drewN _ _ _⟩ | exact ⟨rfl, _, Eq.trans (World.drewN_drewN _ _ _) (congrArg (World.drewN _) (Nat.add_assoc _ _ _))⟩)) | (go_at_call 48; (with_reducible refine (insolvencyref25_cents.calls ((rd_T36 l1 x5_1).f4) true _ A15.out).mono ?_); rintro e w' ⟨rfl, ⟨nd, rfl⟩⟩; (try first | exact ⟨rfl, _, World.drewN_drewN _ _ _⟩ | exact ⟨rfl, _, Eq.trans (World.drewN_drewN _ _ _) (congrArg (World.drewN _) (Nat.add_assoc _ _ _))⟩)) | (go_at_call 48; (with_reducible refine (insolvencyref25_cents.calls ((rd_T36 l1 x5_1).f5) true _ A17.out).mono ?_); rintro e w' ⟨rfl, ⟨nd, rfl⟩⟩; (try first | exact ⟨rfl, _, World.drewN_drewN _ _ _⟩ | exact ⟨rfl, _, Eq.trans (World.drewN_drewN _ _ _) (congrArg (World.drewN _) (Nat.add_assoc _ _ _))⟩))); try go_wp2_with (first | (go_at_call 47; (with_reducible refine (insolvencyref25_day.calls ((rd_T36 l1 x5_1).f0) true _ A9.out).mono ?_); rintro e w' ⟨rfl, ⟨nd, rfl⟩⟩; (try first | exact ⟨rfl, _, World.drewN_drewN _ _ _⟩ | exact ⟨rfl, _, Eq.trans (World.drewN_drewN _ _ _) (congrArg (World.drewN _) (Nat.add_assoc _ _ _))⟩)) | (go_at_call 48; (with_reducible refine (insolvencyref25_cents.calls ((rd_T36 l1 x5_1).f4) true _ A15.out).mono ?_); rintro e w' ⟨rfl, ⟨nd, rfl⟩⟩; (try first | exact ⟨rfl, _, World.drewN_drewN _ _ _⟩ | exact ⟨rfl, _, Eq.trans (World.drewN_drewN _ _ _) (congrArg (World.drewN _) (Nat.add_assoc _ _ _))⟩)) | (go_at_call 48; (with_reducible refine (insolvencyref25_cents.calls ((rd_T36 l1 x5_1).f5) true _ A17.out).mono ?_); rintro e w' ⟨rfl, ⟨nd, rfl⟩⟩; (try first | exact ⟨rfl, _, World.drewN_drewN _ _ _⟩ | exact ⟨rfl, _, Eq.trans (World.drewN_drewN _ _ _) (congrArg (World.drewN _) (Nat.add_assoc _ _ _))⟩))))
                          go_meet
                          case rel => exact ⟨_, (false), (by first | rfl | (simp; done) | (simp [*]; done)), H', ⟨by have := HK1.out; first | omega | exact Nat.le_refl _⟩, ⟨by (with_reducible repeat (first | refine blk_drewN ?_ _ | refine blk_drew ?_ | refine blk_alloc ?_ _)); refine blk_put (cs := #[.int .i64 ((rd_T36 l1 x5_1).f0), .int .i64 ((rd_T36 l1 x5_1).f1), .int .i64 ((rd_T36 l1 x5_1).f2), .int .i64 ((rd_T36 l1 x5_1).f3), .int .i64 ((rd_T36 l1 x5_1).f4), .int .i64 0]) ?_ 5 _ rfl; (with_reducible repeat (first | refine blk_drewN ?_ _ | refine blk_drew ?_ | refine blk_alloc ?_ _)); refine blk_put (cs := #[.int .i64 ((rd_T36 l1 x5_1).f0), .int .i64 ((rd_T36 l1 x5_1).f1), .int .i64 ((rd_T36 l1 x5_1).f2), .int .i64 ((rd_T36 l1 x5_1).f3), .int .i64 0, .int .i64 0]) ?_ 4 _ rfl; (with_reducible repeat (first | refine blk_drewN ?_ _ | refine blk_drew ?_ | refine blk_alloc ?_ _)); refine blk_put (cs := #[.int .i64 ((rd_T36 l1 x5_1).f0), .int .i64 ((rd_T36 l1 x5_1).f1), .int .i64 ((rd_T36 l1 x5_1).f2), .int .i64 0, .int .i64 0, .int .i64 0]) ?_ 3 _ rfl; (with_reducible repeat (first | refine blk_drewN ?_ _ | refine blk_drew ?_ | refine blk_alloc ?_ _)); refine blk_put (cs := #[.int .i64 ((rd_T36 l1 x5_1).f0), .int .i64 ((rd_T36 l1 x5_1).f1), .int .i64 0, .int .i64 0, .int .i64 0, .int .i64 0]) ?_ 2 _ rfl; (with_reducible repeat (first | refine blk_drewN ?_ _ | refine blk_drew ?_ | refine blk_alloc ?_ _)); refine blk_put (cs := #[.int .i64 ((rd_T36 l1 x5_1).f0), .int .i64 0, .int .i64 0, .int .i64 0, .int .i64 0, .int .i64 0]) ?_ 1 _ rfl; (with_reducible repeat (first | refine blk_drewN ?_ _ | refine blk_drew ?_ | refine blk_alloc ?_ _)); refine blk_put (cs := #[.int .i64 0, .int .i64 0, .int .i64 0, .int .i64 0, .int .i64 0, .int .i64 0]) ?_ 0 _ rfl; (with_reducible repeat (first | refine blk_drewN ?_ _ | refine blk_drew ?_ | refine blk_alloc ?_ _)); exact BK134.out⟩, ⟨by repeat (first | (with_reducible first | exact HB.out | apply below_alloc | apply pw_below_drewN | apply below_drew1 | refine below_set ?_ GE134.out) | exact HB.out)⟩⟩
                        · rw [if_neg c19] at H
                          have c19b0 : (((rd_T36 l1 x5_1).f5) == 0) = false := beq_eq_false_iff_ne.mpr c19
                          have c19b1 : (((rd_T36 l1 x5_1).f5) != 0) = true := bne_iff_ne.mpr c19
                          have H' := Aside0.mk H
                          clear H
                          have hcz21_0 : w7.cell? ⟨gb134, 0, none⟩ = some (.int .i64 0) := (blk_cell BK134.out 0).trans rfl
                          have hcz21_1 : w7.cell? ⟨gb134, 1, none⟩ = some (.int .i64 0) := (blk_cell BK134.out 1).trans rfl
                          have hcz21_2 : w7.cell? ⟨gb134, 2, none⟩ = some (.int .i64 0) := (blk_cell BK134.out 2).trans rfl
                          have hcz21_3 : w7.cell? ⟨gb134, 3, none⟩ = some (.int .i64 0) := (blk_cell BK134.out 3).trans rfl
                          have hcz21_4 : w7.cell? ⟨gb134, 4, none⟩ = some (.int .i64 0) := (blk_cell BK134.out 4).trans rfl
                          have hcz21_5 : w7.cell? ⟨gb134, 5, none⟩ = some (.int .i64 0) := (blk_cell BK134.out 5).trans rfl
                          have hfz21_0 := blk_frozen BK134.out 0
                          have hfz21_1 := blk_frozen BK134.out 1
                          have hfz21_2 := blk_frozen BK134.out 2
                          have hfz21_3 := blk_frozen BK134.out 3
                          have hfz21_4 := blk_frozen BK134.out 4
                          have hfz21_5 := blk_frozen BK134.out 5
                          go_wp2_with (first | (go_at_call 47; (with_reducible refine (insolvencyref25_day.calls ((rd_T36 l1 x5_1).f0) true _ A9.out).mono ?_); rintro e w' ⟨rfl, ⟨nd, rfl⟩⟩; (try first | exact ⟨rfl, _, World.drewN_drewN _ _ _⟩ | exact ⟨rfl, _, Eq.trans (World.drewN_drewN _ _ _) (congrArg (World.drewN _) (Nat.add_assoc _ _ _))⟩)) | (go_at_call 48; (with_reducible refine (insolvencyref25_cents.calls ((rd_T36 l1 x5_1).f4) true _ A15.out).mono ?_); rintro e w' ⟨rfl, ⟨nd, rfl⟩⟩; (try first | exact ⟨rfl, _, World.drewN_drewN _ _ _⟩ | exact ⟨rfl, _, Eq.trans (World.drewN_drewN _ _ _) (congrArg (World.drewN _) (Nat.add_assoc _ _ _))⟩)) | (go_at_call 48; (with_reducible refine (insolvencyref25_cents.calls ((rd_T36 l1 x5_1).f5) true _ A17.out).mono ?_); rintro e w' ⟨rfl, ⟨nd, rfl⟩⟩; (try first | exact ⟨rfl, _, World.drewN_drewN _ _ _⟩ | exact ⟨rfl, _, Eq.trans (World.drewN_drewN _ _ _) (congrArg (World.drewN _) (Nat.add_assoc _ _ _))⟩)))
                          repeat (go_quiet (first | (go_at_call 47; (with_reducible refine (insolvencyref25_day.calls ((rd_T36 l1 x5_1).f0) true _ A9.out).mono ?_); rintro e w' ⟨rfl, ⟨nd, rfl⟩⟩; (try first | exact ⟨rfl, _, World.drewN_drewN _ _ _⟩ | exact ⟨rfl, _, Eq.trans (World.drewN_drewN _ _ _) (congrArg (World.drewN _) (Nat.add_assoc _ _ _))⟩)) | (go_at_call 48; (with_reducible refine (insolvencyref25_cents.calls ((rd_T36 l1 x5_1).f4) true _ A15.out).mono ?_); rintro e w' ⟨rfl, ⟨nd, rfl⟩⟩; (try first | exact ⟨rfl, _, World.drewN_drewN _ _ _⟩ | exact ⟨rfl, _, Eq.trans (World.drewN_drewN _ _ _) (congrArg (World.drewN _) (Nat.add_assoc _ _ _))⟩)) | (go_at_call 48; (with_reducible refine (insolvencyref25_cents.calls ((rd_T36 l1 x5_1).f5) true _ A17.out).mono ?_); rintro e w' ⟨rfl, ⟨nd, rfl⟩⟩; (try first | exact ⟨rfl, _, World.drewN_drewN _ _ _⟩ | exact ⟨rfl, _, Eq.trans (World.drewN_drewN _ _ _) (congrArg (World.drewN _) (Nat.add_assoc _ _ _))⟩))); try go_wp2_with (first | (go_at_call 47; (with_reducible refine (insolvencyref25_day.calls ((rd_T36 l1 x5_1).f0) true _ A9.out).mono ?_); rintro e w' ⟨rfl, ⟨nd, rfl⟩⟩; (try first | exact ⟨rfl, _, World.drewN_drewN _ _ _⟩ | exact ⟨rfl, _, Eq.trans (World.drewN_drewN _ _ _) (congrArg (World.drewN _) (Nat.add_assoc _ _ _))⟩)) | (go_at_call 48; (with_reducible refine (insolvencyref25_cents.calls ((rd_T36 l1 x5_1).f4) true _ A15.out).mono ?_); rintro e w' ⟨rfl, ⟨nd, rfl⟩⟩; (try first | exact ⟨rfl, _, World.drewN_drewN _ _ _⟩ | exact ⟨rfl, _, Eq.trans (World.drewN_drewN _ _ _) (congrArg (World.drewN _) (Nat.add_assoc _ _ _))⟩)) | (go_at_call 48; (with_reducible refine (insolvencyref25_cents.calls ((rd_T36 l1 x5_1).f5) true _ A17.out).mono ?_); rintro e w' ⟨rfl, ⟨nd, rfl⟩⟩; (try first | exact ⟨rfl, _, World.drewN_drewN _ _ _⟩ | exact ⟨rfl, _, Eq.trans (World.drewN_drewN _ _ _) (congrArg (World.drewN _) (Nat.add_assoc _ _ _))⟩))))
                          go_meet
                          case rel => exact ⟨_, ((((rd_T36 l1 x5_1).f1) != 3)), (by first | rfl | (simp; done) | (simp [*]; done)), H', ⟨by have := HK1.out; first | omega | exact Nat.le_refl _⟩, ⟨by (with_reducible repeat (first | refine blk_drewN ?_ _ | refine blk_drew ?_ | refine blk_alloc ?_ _)); refine blk_put (cs := #[.int .i64 ((rd_T36 l1 x5_1).f0), .int .i64 ((rd_T36 l1 x5_1).f1), .int .i64 ((rd_T36 l1 x5_1).f2), .int .i64 ((rd_T36 l1 x5_1).f3), .int .i64 ((rd_T36 l1 x5_1).f4), .int .i64 0]) ?_ 5 _ rfl; (with_reducible repeat (first | refine blk_drewN ?_ _ | refine blk_drew ?_ | refine blk_alloc ?_ _)); refine blk_put (cs := #[.int .i64 ((rd_T36 l1 x5_1).f0), .int .i64 ((rd_T36 l1 x5_1).f1), .int .i64 ((rd_T36 l1 x5_1).f2), .int .i64 ((rd_T36 l1 x5_1).f3), .int .i64 0, .int .i64 0]) ?_ 4 _ rfl; (with_reducible repeat (first | refine blk_drewN ?_ _ | refine blk_drew ?_ | refine blk_alloc ?_ _)); refine blk_put (cs := #[.int .i64 ((rd_T36 l1 x5_1).f0), .int .i64 ((rd_T36 l1 x5_1).f1), .int .i64 ((rd_T36 l1 x5_1).f2), .int .i64 0, .int .i64 0, .int .i64 0]) ?_ 3 _ rfl; (with_reducible repeat (first | refine blk_drewN ?_ _ | refine blk_drew ?_ | refine blk_alloc ?_ _)); refine blk_put (cs := #[.int .i64 ((rd_T36 l1 x5_1).f0), .int .i64 ((rd_T36 l1 x5_1).f1), .int .i64 0, .int .i64 0, .int .i64 0, .int .i64 0]) ?_ 2 _ rfl; (with_reducible repeat (first | refine blk_drewN ?_ _ | refine blk_drew ?_ | refine blk_alloc ?_ _)); refine blk_put (cs := #[.int .i64 ((rd_T36 l1 x5_1).f0), .int .i64 0, .int .i64 0, .int .i64 0, .int .i64 0, .int .i64 0]) ?_ 1 _ rfl; (with_reducible repeat (first | refine blk_drewN ?_ _ | refine blk_drew ?_ | refine blk_alloc ?_ _)); refine blk_put (cs := #[.int .i64 0, .int .i64 0, .int .i64 0, .int .i64 0, .int .i64 0, .int .i64 0]) ?_ 0 _ rfl; (with_reducible repeat (first | refine blk_drewN ?_ _ | refine blk_drew ?_ | refine blk_alloc ?_ _)); exact BK134.out⟩, ⟨by repeat (first | (with_reducible first | exact HB.out | apply below_alloc | apply pw_below_drewN | apply below_drew1 | refine below_set ?_ GE134.out) | exact HB.out)⟩⟩
                      · replace c18 := Bool.eq_false_iff.mpr c18
                        subst c18
                        have H1 : (insolvencyref25_Check.j1 k1 a0 l1 x5_1 true ((rd_T36 l1 x5_1).f0) ((rd_T36 l1 x5_1).f1) ((rd_T36 l1 x5_1).f2) ((rd_T36 l1 x5_1).f3) ((rd_T36 l1 x5_1).f4) ((rd_T36 l1 x5_1).f5)) = some r := by rw [if_neg (show ¬ (false = true) by decide)] at H; exact H
                        clear H
                        have H := H1
                        clear H1
                        have H' := Aside0.mk H
                        clear H
                        have hcz22_0 : w7.cell? ⟨gb134, 0, none⟩ = some (.int .i64 0) := (blk_cell BK134.out 0).trans rfl
                        have hcz22_1 : w7.cell? ⟨gb134, 1, none⟩ = some (.int .i64 0) := (blk_cell BK134.out 1).trans rfl
                        have hcz22_2 : w7.cell? ⟨gb134, 2, none⟩ = some (.int .i64 0) := (blk_cell BK134.out 2).trans rfl
                        have hcz22_3 : w7.cell? ⟨gb134, 3, none⟩ = some (.int .i64 0) := (blk_cell BK134.out 3).trans rfl
                        have hcz22_4 : w7.cell? ⟨gb134, 4, none⟩ = some (.int .i64 0) := (blk_cell BK134.out 4).trans rfl
                        have hcz22_5 : w7.cell? ⟨gb134, 5, none⟩ = some (.int .i64 0) := (blk_cell BK134.out 5).trans rfl
                        have hfz22_0 := blk_frozen BK134.out 0
                        have hfz22_1 := blk_frozen BK134.out 1
                        have hfz22_2 := blk_frozen BK134.out 2
                        have hfz22_3 := blk_frozen BK134.out 3
                        have hfz22_4 := blk_frozen BK134.out 4
                        have hfz22_5 := blk_frozen BK134.out 5
                        go_wp2_with (first | (go_at_call 47; (with_reducible refine (insolvencyref25_day.calls ((rd_T36 l1 x5_1).f0) true _ A9.out).mono ?_); rintro e w' ⟨rfl, ⟨nd, rfl⟩⟩; (try first | exact ⟨rfl, _, World.drewN_drewN _ _ _⟩ | exact ⟨rfl, _, Eq.trans (World.drewN_drewN _ _ _) (congrArg (World.drewN _) (Nat.add_assoc _ _ _))⟩)) | (go_at_call 48; (with_reducible refine (insolvencyref25_cents.calls ((rd_T36 l1 x5_1).f4) true _ A15.out).mono ?_); rintro e w' ⟨rfl, ⟨nd, rfl⟩⟩; (try first | exact ⟨rfl, _, World.drewN_drewN _ _ _⟩ | exact ⟨rfl, _, Eq.trans (World.drewN_drewN _ _ _) (congrArg (World.drewN _) (Nat.add_assoc _ _ _))⟩)) | (go_at_call 48; (with_reducible refine (insolvencyref25_cents.calls ((rd_T36 l1 x5_1).f5) false _ A17.out).mono ?_); rintro e w' ⟨rfl, ⟨nd, rfl⟩⟩; (try first | exact ⟨rfl, _, World.drewN_drewN _ _ _⟩ | exact ⟨rfl, _, Eq.trans (World.drewN_drewN _ _ _) (congrArg (World.drewN _) (Nat.add_assoc _ _ _))⟩)))
                        repeat (go_quiet (first | (go_at_call 47; (with_reducible refine (insolvencyref25_day.calls ((rd_T36 l1 x5_1).f0) true _ A9.out).mono ?_); rintro e w' ⟨rfl, ⟨nd, rfl⟩⟩; (try first | exact ⟨rfl, _, World.drewN_drewN _ _ _⟩ | exact ⟨rfl, _, Eq.trans (World.drewN_drewN _ _ _) (congrArg (World.drewN _) (Nat.add_assoc _ _ _))⟩)) | (go_at_call 48; (with_reducible refine (insolvencyref25_cents.calls ((rd_T36 l1 x5_1).f4) true _ A15.out).mono ?_); rintro e w' ⟨rfl, ⟨nd, rfl⟩⟩; (try first | exact ⟨rfl, _, World.drewN_drewN _ _ _⟩ | exact ⟨rfl, _, Eq.trans (World.drewN_drewN _ _ _) (congrArg (World.drewN _) (Nat.add_assoc _ _ _))⟩)) | (go_at_call 48; (with_reducible refine (insolvencyref25_cents.calls ((rd_T36 l1 x5_1).f5) false _ A17.out).mono ?_); rintro e w' ⟨rfl, ⟨nd, rfl⟩⟩; (try first | exact ⟨rfl, _, World.drewN_drewN _ _ _⟩ | exact ⟨rfl, _, Eq.trans (World.drewN_drewN _ _ _) (congrArg (World.drewN _) (Nat.add_assoc _ _ _))⟩))); try go_wp2_with (first | (go_at_call 47; (with_reducible refine (insolvencyref25_day.calls ((rd_T36 l1 x5_1).f0) true _ A9.out).mono ?_); rintro e w' ⟨rfl, ⟨nd, rfl⟩⟩; (try first | exact ⟨rfl, _, World.drewN_drewN _ _ _⟩ | exact ⟨rfl, _, Eq.trans (World.drewN_drewN _ _ _) (congrArg (World.drewN _) (Nat.add_assoc _ _ _))⟩)) | (go_at_call 48; (with_reducible refine (insolvencyref25_cents.calls ((rd_T36 l1 x5_1).f4) true _ A15.out).mono ?_); rintro e w' ⟨rfl, ⟨nd, rfl⟩⟩; (try first | exact ⟨rfl, _, World.drewN_drewN _ _ _⟩ | exact ⟨rfl, _, Eq.trans (World.drewN_drewN _ _ _) (congrArg (World.drewN _) (Nat.add_assoc _ _ _))⟩)) | (go_at_call 48; (with_reducible refine (insolvencyref25_cents.calls ((rd_T36 l1 x5_1).f5) false _ A17.out).mono ?_); rintro e w' ⟨rfl, ⟨nd, rfl⟩⟩; (try first | exact ⟨rfl, _, World.drewN_drewN _ _ _⟩ | exact ⟨rfl, _, Eq.trans (World.drewN_drewN _ _ _) (congrArg (World.drewN _) (Nat.add_assoc _ _ _))⟩))))
                        go_meet
                        case rel => exact ⟨_, (true), (by first | rfl | (simp; done) | (simp [*]; done)), H', ⟨by have := HK1.out; first | omega | exact Nat.le_refl _⟩, ⟨by (with_reducible repeat (first | refine blk_drewN ?_ _ | refine blk_drew ?_ | refine blk_alloc ?_ _)); refine blk_put (cs := #[.int .i64 ((rd_T36 l1 x5_1).f0), .int .i64 ((rd_T36 l1 x5_1).f1), .int .i64 ((rd_T36 l1 x5_1).f2), .int .i64 ((rd_T36 l1 x5_1).f3), .int .i64 ((rd_T36 l1 x5_1).f4), .int .i64 0]) ?_ 5 _ rfl; (with_reducible repeat (first | refine blk_drewN ?_ _ | refine blk_drew ?_ | refine blk_alloc ?_ _)); refine blk_put (cs := #[.int .i64 ((rd_T36 l1 x5_1).f0), .int .i64 ((rd_T36 l1 x5_1).f1), .int .i64 ((rd_T36 l1 x5_1).f2), .int .i64 ((rd_T36 l1 x5_1).f3), .int .i64 0, .int .i64 0]) ?_ 4 _ rfl; (with_reducible repeat (first | refine blk_drewN ?_ _ | refine blk_drew ?_ | refine blk_alloc ?_ _)); refine blk_put (cs := #[.int .i64 ((rd_T36 l1 x5_1).f0), .int .i64 ((rd_T36 l1 x5_1).f1), .int .i64 ((rd_T36 l1 x5_1).f2), .int .i64 0, .int .i64 0, .int .i64 0]) ?_ 3 _ rfl; (with_reducible repeat (first | refine blk_drewN ?_ _ | refine blk_drew ?_ | refine blk_alloc ?_ _)); refine blk_put (cs := #[.int .i64 ((rd_T36 l1 x5_1).f0), .int .i64 ((rd_T36 l1 x5_1).f1), .int .i64 0, .int .i64 0, .int .i64 0, .int .i64 0]) ?_ 2 _ rfl; (with_reducible repeat (first | refine blk_drewN ?_ _ | refine blk_drew ?_ | refine blk_alloc ?_ _)); refine blk_put (cs := #[.int .i64 ((rd_T36 l1 x5_1).f0), .int .i64 0, .int .i64 0, .int .i64 0, .int .i64 0, .int .i64 0]) ?_ 1 _ rfl; (with_reducible repeat (first | refine blk_drewN ?_ _ | refine blk_drew ?_ | refine blk_alloc ?_ _)); refine blk_put (cs := #[.int .i64 0, .int .i64 0, .int .i64 0, .int .i64 0, .int .i64 0, .int .i64 0]) ?_ 0 _ rfl; (with_reducible repeat (first | refine blk_drewN ?_ _ | refine blk_drew ?_ | refine blk_alloc ?_ _)); exact BK134.out⟩, ⟨by repeat (first | (with_reducible first | exact HB.out | apply below_alloc | apply pw_below_drewN | apply below_drew1 | refine below_set ?_ GE134.out) | exact HB.out)⟩⟩
                    · replace c16 := Bool.eq_false_iff.mpr c16
                      subst c16
                      have H1 : (insolvencyref25_Check.j1 k1 a0 l1 x5_1 true ((rd_T36 l1 x5_1).f0) ((rd_T36 l1 x5_1).f1) ((rd_T36 l1 x5_1).f2) ((rd_T36 l1 x5_1).f3) ((rd_T36 l1 x5_1).f4) ((rd_T36 l1 x5_1).f5)) = some r := by rw [if_neg (show ¬ (false = true) by decide)] at H; exact H
                      clear H
                      have H := H1
                      clear H1
                      have H' := Aside0.mk H
                      clear H
                      have hcz23_0 : w7.cell? ⟨gb134, 0, none⟩ = some (.int .i64 0) := (blk_cell BK134.out 0).trans rfl
                      have hcz23_1 : w7.cell? ⟨gb134, 1, none⟩ = some (.int .i64 0) := (blk_cell BK134.out 1).trans rfl
                      have hcz23_2 : w7.cell? ⟨gb134, 2, none⟩ = some (.int .i64 0) := (blk_cell BK134.out 2).trans rfl
                      have hcz23_3 : w7.cell? ⟨gb134, 3, none⟩ = some (.int .i64 0) := (blk_cell BK134.out 3).trans rfl
                      have hcz23_4 : w7.cell? ⟨gb134, 4, none⟩ = some (.int .i64 0) := (blk_cell BK134.out 4).trans rfl
                      have hcz23_5 : w7.cell? ⟨gb134, 5, none⟩ = some (.int .i64 0) := (blk_cell BK134.out 5).trans rfl
                      have hfz23_0 := blk_frozen BK134.out 0
                      have hfz23_1 := blk_frozen BK134.out 1
                      have hfz23_2 := blk_frozen BK134.out 2
                      have hfz23_3 := blk_frozen BK134.out 3
                      have hfz23_4 := blk_frozen BK134.out 4
                      have hfz23_5 := blk_frozen BK134.out 5
                      go_wp2_with (first | (go_at_call 47; (with_reducible refine (insolvencyref25_day.calls ((rd_T36 l1 x5_1).f0) true _ A9.out).mono ?_); rintro e w' ⟨rfl, ⟨nd, rfl⟩⟩; (try first | exact ⟨rfl, _, World.drewN_drewN _ _ _⟩ | exact ⟨rfl, _, Eq.trans (World.drewN_drewN _ _ _) (congrArg (World.drewN _) (Nat.add_assoc _ _ _))⟩)) | (go_at_call 48; (with_reducible refine (insolvencyref25_cents.calls ((rd_T36 l1 x5_1).f4) false _ A15.out).mono ?_); rintro e w' ⟨rfl, ⟨nd, rfl⟩⟩; (try first | exact ⟨rfl, _, World.drewN_drewN _ _ _⟩ | exact ⟨rfl, _, Eq.trans (World.drewN_drewN _ _ _) (congrArg (World.drewN _) (Nat.add_assoc _ _ _))⟩)))
                      repeat (go_quiet (first | (go_at_call 47; (with_reducible refine (insolvencyref25_day.calls ((rd_T36 l1 x5_1).f0) true _ A9.out).mono ?_); rintro e w' ⟨rfl, ⟨nd, rfl⟩⟩; (try first | exact ⟨rfl, _, World.drewN_drewN _ _ _⟩ | exact ⟨rfl, _, Eq.trans (World.drewN_drewN _ _ _) (congrArg (World.drewN _) (Nat.add_assoc _ _ _))⟩)) | (go_at_call 48; (with_reducible refine (insolvencyref25_cents.calls ((rd_T36 l1 x5_1).f4) false _ A15.out).mono ?_); rintro e w' ⟨rfl, ⟨nd, rfl⟩⟩; (try first | exact ⟨rfl, _, World.drewN_drewN _ _ _⟩ | exact ⟨rfl, _, Eq.trans (World.drewN_drewN _ _ _) (congrArg (World.drewN _) (Nat.add_assoc _ _ _))⟩))); try go_wp2_with (first | (go_at_call 47; (with_reducible refine (insolvencyref25_day.calls ((rd_T36 l1 x5_1).f0) true _ A9.out).mono ?_); rintro e w' ⟨rfl, ⟨nd, rfl⟩⟩; (try first | exact ⟨rfl, _, World.drewN_drewN _ _ _⟩ | exact ⟨rfl, _, Eq.trans (World.drewN_drewN _ _ _) (congrArg (World.drewN _) (Nat.add_assoc _ _ _))⟩)) | (go_at_call 48; (with_reducible refine (insolvencyref25_cents.calls ((rd_T36 l1 x5_1).f4) false _ A15.out).mono ?_); rintro e w' ⟨rfl, ⟨nd, rfl⟩⟩; (try first | exact ⟨rfl, _, World.drewN_drewN _ _ _⟩ | exact ⟨rfl, _, Eq.trans (World.drewN_drewN _ _ _) (congrArg (World.drewN _) (Nat.add_assoc _ _ _))⟩))))
                      go_meet
                      case rel => exact ⟨_, (true), (by first | rfl | (simp; done) | (simp [*]; done)), H', ⟨by have := HK1.out; first | omega | exact Nat.le_refl _⟩, ⟨by (with_reducible repeat (first | refine blk_drewN ?_ _ | refine blk_drew ?_ | refine blk_alloc ?_ _)); refine blk_put (cs := #[.int .i64 ((rd_T36 l1 x5_1).f0), .int .i64 ((rd_T36 l1 x5_1).f1), .int .i64 ((rd_T36 l1 x5_1).f2), .int .i64 ((rd_T36 l1 x5_1).f3), .int .i64 ((rd_T36 l1 x5_1).f4), .int .i64 0]) ?_ 5 _ rfl; (with_reducible repeat (first | refine blk_drewN ?_ _ | refine blk_drew ?_ | refine blk_alloc ?_ _)); refine blk_put (cs := #[.int .i64 ((rd_T36 l1 x5_1).f0), .int .i64 ((rd_T36 l1 x5_1).f1), .int .i64 ((rd_T36 l1 x5_1).f2), .int .i64 ((rd_T36 l1 x5_1).f3), .int .i64 0, .int .i64 0]) ?_ 4 _ rfl; (with_reducible repeat (first | refine blk_drewN ?_ _ | refine blk_drew ?_ | refine blk_alloc ?_ _)); refine blk_put (cs := #[.int .i64 ((rd_T36 l1 x5_1).f0), .int .i64 ((rd_T36 l1 x5_1).f1), .int .i64 ((rd_T36 l1 x5_1).f2), .int .i64 0, .int .i64 0, .int .i64 0]) ?_ 3 _ rfl; (with_reducible repeat (first | refine blk_drewN ?_ _ | refine blk_drew ?_ | refine blk_alloc ?_ _)); refine blk_put (cs := #[.int .i64 ((rd_T36 l1 x5_1).f0), .int .i64 ((rd_T36 l1 x5_1).f1), .int .i64 0, .int .i64 0, .int .i64 0, .int .i64 0]) ?_ 2 _ rfl; (with_reducible repeat (first | refine blk_drewN ?_ _ | refine blk_drew ?_ | refine blk_alloc ?_ _)); refine blk_put (cs := #[.int .i64 ((rd_T36 l1 x5_1).f0), .int .i64 0, .int .i64 0, .int .i64 0, .int .i64 0, .int .i64 0]) ?_ 1 _ rfl; (with_reducible repeat (first | refine blk_drewN ?_ _ | refine blk_drew ?_ | refine blk_alloc ?_ _)); refine blk_put (cs := #[.int .i64 0, .int .i64 0, .int .i64 0, .int .i64 0, .int .i64 0, .int .i64 0]) ?_ 0 _ rfl; (with_reducible repeat (first | refine blk_drewN ?_ _ | refine blk_drew ?_ | refine blk_alloc ?_ _)); exact BK134.out⟩, ⟨by repeat (first | (with_reducible first | exact HB.out | apply below_alloc | apply pw_below_drewN | apply below_drew1 | refine below_set ?_ GE134.out) | exact HB.out)⟩⟩
              · replace c10 := Bool.eq_false_iff.mpr c10
                subst c10
                have H1 : (insolvencyref25_Check.j1 k1 a0 l1 x5_1 true ((rd_T36 l1 x5_1).f0) ((rd_T36 l1 x5_1).f1) ((rd_T36 l1 x5_1).f2) ((rd_T36 l1 x5_1).f3) ((rd_T36 l1 x5_1).f4) ((rd_T36 l1 x5_1).f5)) = some r := by rw [if_neg (show ¬ (false = true) by decide)] at H; exact H
                clear H
                have H := H1
                clear H1
                have H' := Aside0.mk H
                clear H
                have hcz24_0 : w7.cell? ⟨gb134, 0, none⟩ = some (.int .i64 0) := (blk_cell BK134.out 0).trans rfl
                have hcz24_1 : w7.cell? ⟨gb134, 1, none⟩ = some (.int .i64 0) := (blk_cell BK134.out 1).trans rfl
                have hcz24_2 : w7.cell? ⟨gb134, 2, none⟩ = some (.int .i64 0) := (blk_cell BK134.out 2).trans rfl
                have hcz24_3 : w7.cell? ⟨gb134, 3, none⟩ = some (.int .i64 0) := (blk_cell BK134.out 3).trans rfl
                have hcz24_4 : w7.cell? ⟨gb134, 4, none⟩ = some (.int .i64 0) := (blk_cell BK134.out 4).trans rfl
                have hcz24_5 : w7.cell? ⟨gb134, 5, none⟩ = some (.int .i64 0) := (blk_cell BK134.out 5).trans rfl
                have hfz24_0 := blk_frozen BK134.out 0
                have hfz24_1 := blk_frozen BK134.out 1
                have hfz24_2 := blk_frozen BK134.out 2
                have hfz24_3 := blk_frozen BK134.out 3
                have hfz24_4 := blk_frozen BK134.out 4
                have hfz24_5 := blk_frozen BK134.out 5
                go_wp2_with (first | (go_at_call 47; (with_reducible refine (insolvencyref25_day.calls ((rd_T36 l1 x5_1).f0) false _ A9.out).mono ?_); rintro e w' ⟨rfl, ⟨nd, rfl⟩⟩; (try first | exact ⟨rfl, _, World.drewN_drewN _ _ _⟩ | exact ⟨rfl, _, Eq.trans (World.drewN_drewN _ _ _) (congrArg (World.drewN _) (Nat.add_assoc _ _ _))⟩)))
                repeat (go_quiet (first | (go_at_call 47; (with_reducible refine (insolvencyref25_day.calls ((rd_T36 l1 x5_1).f0) false _ A9.out).mono ?_); rintro e w' ⟨rfl, ⟨nd, rfl⟩⟩; (try first | exact ⟨rfl, _, World.drewN_drewN _ _ _⟩ | exact ⟨rfl, _, Eq.trans (World.drewN_drewN _ _ _) (congrArg (World.drewN _) (Nat.add_assoc _ _ _))⟩))); try go_wp2_with (first | (go_at_call 47; (with_reducible refine (insolvencyref25_day.calls ((rd_T36 l1 x5_1).f0) false _ A9.out).mono ?_); rintro e w' ⟨rfl, ⟨nd, rfl⟩⟩; (try first | exact ⟨rfl, _, World.drewN_drewN _ _ _⟩ | exact ⟨rfl, _, Eq.trans (World.drewN_drewN _ _ _) (congrArg (World.drewN _) (Nat.add_assoc _ _ _))⟩))))
                go_meet
                case rel => exact ⟨_, (true), (by first | rfl | (simp; done) | (simp [*]; done)), H', ⟨by have := HK1.out; first | omega | exact Nat.le_refl _⟩, ⟨by (with_reducible repeat (first | refine blk_drewN ?_ _ | refine blk_drew ?_ | refine blk_alloc ?_ _)); refine blk_put (cs := #[.int .i64 ((rd_T36 l1 x5_1).f0), .int .i64 ((rd_T36 l1 x5_1).f1), .int .i64 ((rd_T36 l1 x5_1).f2), .int .i64 ((rd_T36 l1 x5_1).f3), .int .i64 ((rd_T36 l1 x5_1).f4), .int .i64 0]) ?_ 5 _ rfl; (with_reducible repeat (first | refine blk_drewN ?_ _ | refine blk_drew ?_ | refine blk_alloc ?_ _)); refine blk_put (cs := #[.int .i64 ((rd_T36 l1 x5_1).f0), .int .i64 ((rd_T36 l1 x5_1).f1), .int .i64 ((rd_T36 l1 x5_1).f2), .int .i64 ((rd_T36 l1 x5_1).f3), .int .i64 0, .int .i64 0]) ?_ 4 _ rfl; (with_reducible repeat (first | refine blk_drewN ?_ _ | refine blk_drew ?_ | refine blk_alloc ?_ _)); refine blk_put (cs := #[.int .i64 ((rd_T36 l1 x5_1).f0), .int .i64 ((rd_T36 l1 x5_1).f1), .int .i64 ((rd_T36 l1 x5_1).f2), .int .i64 0, .int .i64 0, .int .i64 0]) ?_ 3 _ rfl; (with_reducible repeat (first | refine blk_drewN ?_ _ | refine blk_drew ?_ | refine blk_alloc ?_ _)); refine blk_put (cs := #[.int .i64 ((rd_T36 l1 x5_1).f0), .int .i64 ((rd_T36 l1 x5_1).f1), .int .i64 0, .int .i64 0, .int .i64 0, .int .i64 0]) ?_ 2 _ rfl; (with_reducible repeat (first | refine blk_drewN ?_ _ | refine blk_drew ?_ | refine blk_alloc ?_ _)); refine blk_put (cs := #[.int .i64 ((rd_T36 l1 x5_1).f0), .int .i64 0, .int .i64 0, .int .i64 0, .int .i64 0, .int .i64 0]) ?_ 1 _ rfl; (with_reducible repeat (first | refine blk_drewN ?_ _ | refine blk_drew ?_ | refine blk_alloc ?_ _)); refine blk_put (cs := #[.int .i64 0, .int .i64 0, .int .i64 0, .int .i64 0, .int .i64 0, .int .i64 0]) ?_ 0 _ rfl; (with_reducible repeat (first | refine blk_drewN ?_ _ | refine blk_drew ?_ | refine blk_alloc ?_ _)); exact BK134.out⟩, ⟨by repeat (first | (with_reducible first | exact HB.out | apply below_alloc | apply pw_below_drewN | apply below_drew1 | refine below_set ?_ GE134.out) | exact HB.out)⟩⟩
            case rest =>
              clear HC6
              try clear c1
              try clear p1
              try clear q1
              try clear hx1
              try clear p2
              try clear c3
              try clear c3b0
              try clear c3b1
              try clear c4
              try clear c4b0
              try clear c5
              try clear c5b0
              try clear c10
              try clear c11
              try clear c11b0
              try clear c11b1
              try clear c13
              try clear c13b0
              try clear p13
              try clear q13
              try clear hx13
              try clear c16
              try clear c18
              try clear c19
              try clear c19b0
              try clear c19b1
              try clear hcz12_0
              try clear hcz12_1
              try clear hcz12_2
              try clear hcz12_3
              try clear hcz12_4
              try clear hcz12_5
              try clear hcz14_0
              try clear hcz14_1
              try clear hcz14_2
              try clear hcz14_3
              try clear hcz14_4
              try clear hcz14_5
              try clear hcz20_0
              try clear hcz20_1
              try clear hcz20_2
              try clear hcz20_3
              try clear hcz20_4
              try clear hcz20_5
              try clear hcz21_0
              try clear hcz21_1
              try clear hcz21_2
              try clear hcz21_3
              try clear hcz21_4
              try clear hcz21_5
              try clear hcz22_0
              try clear hcz22_1
              try clear hcz22_2
              try clear hcz22_3
              try clear hcz22_4
              try clear hcz22_5
              try clear hcz23_0
              try clear hcz23_1
              try clear hcz23_2
              try clear hcz23_3
              try clear hcz23_4
              try clear hcz23_5
              try clear hcz24_0
              try clear hcz24_1
              try clear hcz24_2
              try clear hcz24_3
              try clear hcz24_4
              try clear hcz24_5
              try clear hcz8_0
              try clear hcz8_1
              try clear hcz8_2
              try clear hcz8_3
              try clear hcz8_4
              try clear hcz8_5
              try clear hfz12_0
              try clear hfz12_1
              try clear hfz12_2
              try clear hfz12_3
              try clear hfz12_4
              try clear hfz12_5
              try clear hfz14_0
              try clear hfz14_1
              try clear hfz14_2
              try clear hfz14_3
              try clear hfz14_4
              try clear hfz14_5
              try clear hfz20_0
              try clear hfz20_1
              try clear hfz20_2
              try clear hfz20_3
              try clear hfz20_4
              try clear hfz20_5
              try clear hfz21_0
              try clear hfz21_1
              try clear hfz21_2
              try clear hfz21_3
              try clear hfz21_4
              try clear hfz21_5
              try clear hfz22_0
              try clear hfz22_1
              try clear hfz22_2
              try clear hfz22_3
              try clear hfz22_4
              try clear hfz22_5
              try clear hfz23_0
              try clear hfz23_1
              try clear hfz23_2
              try clear hfz23_3
              try clear hfz23_4
              try clear hfz23_5
              try clear hfz24_0
              try clear hfz24_1
              try clear hfz24_2
              try clear hfz24_3
              try clear hfz24_4
              try clear hfz24_5
              try clear hfz8_0
              try clear hfz8_1
              try clear hfz8_2
              try clear hfz8_3
              try clear hfz8_4
              try clear hfz8_5
              try clear hx133_0
              try clear hx133_1
              try clear hx133_2
              try clear hx133_3
              try clear hx133_4
              try clear hx133_5
              try clear p133
              try clear p2
              try clear q133
              obtain ⟨kq, x55_5, rfl, HA, HJ5, BK134, HB⟩ := hcut
              cases kq with
              | zero => exact absurd HA.out (by simp [insolvencyref25_Check.j1])
              | succ kj5 =>
                have H := HA.out
                clear HA
                simp only [insolvencyref25_Check.j1] at H
                by_cases c25 : x55_5 = true
                · subst c25
                  have H1 : (some 1) = some r := by rw [if_pos rfl] at H; exact H
                  clear H
                  have H := H1
                  clear H1
                  obtain rfl := Option.some.inj H
                  go_wp2
                  repeat (go_quiet (fail); try go_wp2)
                  go_ret
                  exact ⟨by first | rfl | (simp [errW_none, errW_some] <;> rfl) | (simp [*, errW_none, errW_some] <;> rfl), by repeat (first | (with_reducible first | exact HB.out | apply below_alloc | apply pw_below_drewN | apply below_drew1 | refine below_set ?_ GE134.out) | exact HB.out)⟩
                · replace c25 := Bool.eq_false_iff.mpr c25
                  subst c25
                  have H1 : (if ((rd_T36 l1 x5_1).f2) < 0 then (insolvencyref25_Check.j2 kj5 a0 l1 x5_1 true ((rd_T36 l1 x5_1).f0) ((rd_T36 l1 x5_1).f1) ((rd_T36 l1 x5_1).f2) ((rd_T36 l1 x5_1).f3) ((rd_T36 l1 x5_1).f4) ((rd_T36 l1 x5_1).f5)) else (if ((rd_T36 l1 x5_1).f2) ≥ a0 then (insolvencyref25_Check.j2 kj5 a0 l1 x5_1 true ((rd_T36 l1 x5_1).f0) ((rd_T36 l1 x5_1).f1) ((rd_T36 l1 x5_1).f2) ((rd_T36 l1 x5_1).f3) ((rd_T36 l1 x5_1).f4) ((rd_T36 l1 x5_1).f5)) else (if ((rd_T36 l1 x5_1).f3) < 0 then (insolvencyref25_Check.j2 kj5 a0 l1 x5_1 true ((rd_T36 l1 x5_1).f0) ((rd_T36 l1 x5_1).f1) ((rd_T36 l1 x5_1).f2) ((rd_T36 l1 x5_1).f3) ((rd_T36 l1 x5_1).f4) ((rd_T36 l1 x5_1).f5)) else (if ((rd_T36 l1 x5_1).f3) ≥ a0 then (insolvencyref25_Check.j2 kj5 a0 l1 x5_1 true ((rd_T36 l1 x5_1).f0) ((rd_T36 l1 x5_1).f1) ((rd_T36 l1 x5_1).f2) ((rd_T36 l1 x5_1).f3) ((rd_T36 l1 x5_1).f4) ((rd_T36 l1 x5_1).f5)) else (insolvencyref25_Check.j2 kj5 a0 l1 x5_1 (((rd_T36 l1 x5_1).f2) == ((rd_T36 l1 x5_1).f3)) ((rd_T36 l1 x5_1).f0) ((rd_T36 l1 x5_1).f1) ((rd_T36 l1 x5_1).f2) ((rd_T36 l1 x5_1).f3) ((rd_T36 l1 x5_1).f4) ((rd_T36 l1 x5_1).f5)))))) = some r := by rw [if_neg (show ¬ (false = true) by decide)] at H; exact H
                  clear H
                  have H := H1
                  clear H1
                  have HC26 := Aside0.mk H
                  clear H
                  go_upto_region 9 with (fail)
                  repeat (go_quiet (fail); go_upto_region 9 with (fail))
                  go_cut [82] (fun v82 wc => ∃ (kq : Nat) (x82_25 : Bool), v82 = .bool x82_25 ∧ Aside0 (insolvencyref25_Check.j2 kq a0 l1 x5_1 x82_25 ((rd_T36 l1 x5_1).f0) ((rd_T36 l1 x5_1).f1) ((rd_T36 l1 x5_1).f2) ((rd_T36 l1 x5_1).f3) ((rd_T36 l1 x5_1).f4) ((rd_T36 l1 x5_1).f5) = some r) ∧ Aside0 (kq ≤ kj5) ∧ Aside0 (wc.heap[gb134]? = some (.cells #[.int .i64 ((rd_T36 l1 x5_1).f0), .int .i64 ((rd_T36 l1 x5_1).f1), .int .i64 ((rd_T36 l1 x5_1).f2), .int .i64 ((rd_T36 l1 x5_1).f3), .int .i64 ((rd_T36 l1 x5_1).f4), .int .i64 ((rd_T36 l1 x5_1).f5)] 36 (0, 0))) ∧ Aside0 (Below w.heap.size w wc))
                  case first =>
                    have H := HC26.out
                    clear HC26
                    by_cases c27 : ((rd_T36 l1 x5_1).f2) < 0
                    · rw [if_pos c27] at H
                      have c27b0 : decide (((rd_T36 l1 x5_1).f2) < 0) = true := decide_eq_true c27
                      clear c27
                      (first | rw [c27b0] | (simp only [i64_w, i32_w]; rw [c27b0]) | rw [c27b1] | skip)
                      have H' := Aside0.mk H
                      clear H
                      have hcz28_0 : wc.cell? ⟨gb134, 0, none⟩ = some (.int .i64 ((rd_T36 l1 x5_1).f0)) := (blk_cell BK134.out 0).trans rfl
                      have hcz28_1 : wc.cell? ⟨gb134, 1, none⟩ = some (.int .i64 ((rd_T36 l1 x5_1).f1)) := (blk_cell BK134.out 1).trans rfl
                      have hcz28_2 : wc.cell? ⟨gb134, 2, none⟩ = some (.int .i64 ((rd_T36 l1 x5_1).f2)) := (blk_cell BK134.out 2).trans rfl
                      have hcz28_3 : wc.cell? ⟨gb134, 3, none⟩ = some (.int .i64 ((rd_T36 l1 x5_1).f3)) := (blk_cell BK134.out 3).trans rfl
                      have hcz28_4 : wc.cell? ⟨gb134, 4, none⟩ = some (.int .i64 ((rd_T36 l1 x5_1).f4)) := (blk_cell BK134.out 4).trans rfl
                      have hcz28_5 : wc.cell? ⟨gb134, 5, none⟩ = some (.int .i64 ((rd_T36 l1 x5_1).f5)) := (blk_cell BK134.out 5).trans rfl
                      have hfz28_0 := blk_frozen BK134.out 0
                      have hfz28_1 := blk_frozen BK134.out 1
                      have hfz28_2 := blk_frozen BK134.out 2
                      have hfz28_3 := blk_frozen BK134.out 3
                      have hfz28_4 := blk_frozen BK134.out 4
                      have hfz28_5 := blk_frozen BK134.out 5
                      go_wp2
                      repeat (go_quiet (fail); try go_wp2)
                      go_meet
                      case rel => exact ⟨_, (true), (by first | rfl | (simp; done) | (simp [*]; done)), H', ⟨by have := HK1.out; have := HJ5.out; first | omega | exact Nat.le_refl _⟩, ⟨by (with_reducible repeat (first | refine blk_drewN ?_ _ | refine blk_drew ?_ | refine blk_alloc ?_ _)); exact BK134.out⟩, ⟨by repeat (first | (with_reducible first | exact HB.out | apply below_alloc | apply pw_below_drewN | apply below_drew1 | refine below_set ?_ GE134.out) | exact HB.out)⟩⟩
                    · rw [if_neg c27] at H
                      have c27b0 : decide (((rd_T36 l1 x5_1).f2) < 0) = false := decide_eq_false c27
                      clear c27
                      (first | rw [c27b0] | (simp only [i64_w, i32_w]; rw [c27b0]) | rw [c27b1] | skip)
                      by_cases c29 : ((rd_T36 l1 x5_1).f2) ≥ a0
                      · rw [if_pos c29] at H
                        have c29b0 : decide (a0 ≤ ((rd_T36 l1 x5_1).f2)) = true := decide_eq_true c29
                        clear c29
                        have H' := Aside0.mk H
                        clear H
                        have hcz30_0 : wc.cell? ⟨gb134, 0, none⟩ = some (.int .i64 ((rd_T36 l1 x5_1).f0)) := (blk_cell BK134.out 0).trans rfl
                        have hcz30_1 : wc.cell? ⟨gb134, 1, none⟩ = some (.int .i64 ((rd_T36 l1 x5_1).f1)) := (blk_cell BK134.out 1).trans rfl
                        have hcz30_2 : wc.cell? ⟨gb134, 2, none⟩ = some (.int .i64 ((rd_T36 l1 x5_1).f2)) := (blk_cell BK134.out 2).trans rfl
                        have hcz30_3 : wc.cell? ⟨gb134, 3, none⟩ = some (.int .i64 ((rd_T36 l1 x5_1).f3)) := (blk_cell BK134.out 3).trans rfl
                        have hcz30_4 : wc.cell? ⟨gb134, 4, none⟩ = some (.int .i64 ((rd_T36 l1 x5_1).f4)) := (blk_cell BK134.out 4).trans rfl
                        have hcz30_5 : wc.cell? ⟨gb134, 5, none⟩ = some (.int .i64 ((rd_T36 l1 x5_1).f5)) := (blk_cell BK134.out 5).trans rfl
                        have hfz30_0 := blk_frozen BK134.out 0
                        have hfz30_1 := blk_frozen BK134.out 1
                        have hfz30_2 := blk_frozen BK134.out 2
                        have hfz30_3 := blk_frozen BK134.out 3
                        have hfz30_4 := blk_frozen BK134.out 4
                        have hfz30_5 := blk_frozen BK134.out 5
                        go_wp2
                        repeat (go_quiet (fail); try go_wp2)
                        go_meet
                        case rel => exact ⟨_, (true), (by first | rfl | (simp; done) | (simp [*]; done)), H', ⟨by have := HK1.out; have := HJ5.out; first | omega | exact Nat.le_refl _⟩, ⟨by (with_reducible repeat (first | refine blk_drewN ?_ _ | refine blk_drew ?_ | refine blk_alloc ?_ _)); exact BK134.out⟩, ⟨by repeat (first | (with_reducible first | exact HB.out | apply below_alloc | apply pw_below_drewN | apply below_drew1 | refine below_set ?_ GE134.out) | exact HB.out)⟩⟩
                      · rw [if_neg c29] at H
                        have c29b0 : decide (a0 ≤ ((rd_T36 l1 x5_1).f2)) = false := decide_eq_false c29
                        clear c29
                        by_cases c31 : ((rd_T36 l1 x5_1).f3) < 0
                        · rw [if_pos c31] at H
                          have c31b0 : decide (((rd_T36 l1 x5_1).f3) < 0) = true := decide_eq_true c31
                          clear c31
                          have H' := Aside0.mk H
                          clear H
                          have hcz32_0 : wc.cell? ⟨gb134, 0, none⟩ = some (.int .i64 ((rd_T36 l1 x5_1).f0)) := (blk_cell BK134.out 0).trans rfl
                          have hcz32_1 : wc.cell? ⟨gb134, 1, none⟩ = some (.int .i64 ((rd_T36 l1 x5_1).f1)) := (blk_cell BK134.out 1).trans rfl
                          have hcz32_2 : wc.cell? ⟨gb134, 2, none⟩ = some (.int .i64 ((rd_T36 l1 x5_1).f2)) := (blk_cell BK134.out 2).trans rfl
                          have hcz32_3 : wc.cell? ⟨gb134, 3, none⟩ = some (.int .i64 ((rd_T36 l1 x5_1).f3)) := (blk_cell BK134.out 3).trans rfl
                          have hcz32_4 : wc.cell? ⟨gb134, 4, none⟩ = some (.int .i64 ((rd_T36 l1 x5_1).f4)) := (blk_cell BK134.out 4).trans rfl
                          have hcz32_5 : wc.cell? ⟨gb134, 5, none⟩ = some (.int .i64 ((rd_T36 l1 x5_1).f5)) := (blk_cell BK134.out 5).trans rfl
                          have hfz32_0 := blk_frozen BK134.out 0
                          have hfz32_1 := blk_frozen BK134.out 1
                          have hfz32_2 := blk_frozen BK134.out 2
                          have hfz32_3 := blk_frozen BK134.out 3
                          have hfz32_4 := blk_frozen BK134.out 4
                          have hfz32_5 := blk_frozen BK134.out 5
                          go_wp2
                          repeat (go_quiet (fail); try go_wp2)
                          go_meet
                          case rel => exact ⟨_, (true), (by first | rfl | (simp; done) | (simp [*]; done)), H', ⟨by have := HK1.out; have := HJ5.out; first | omega | exact Nat.le_refl _⟩, ⟨by (with_reducible repeat (first | refine blk_drewN ?_ _ | refine blk_drew ?_ | refine blk_alloc ?_ _)); exact BK134.out⟩, ⟨by repeat (first | (with_reducible first | exact HB.out | apply below_alloc | apply pw_below_drewN | apply below_drew1 | refine below_set ?_ GE134.out) | exact HB.out)⟩⟩
                        · rw [if_neg c31] at H
                          have c31b0 : decide (((rd_T36 l1 x5_1).f3) < 0) = false := decide_eq_false c31
                          clear c31
                          by_cases c33 : ((rd_T36 l1 x5_1).f3) ≥ a0
                          · rw [if_pos c33] at H
                            have c33b0 : decide (a0 ≤ ((rd_T36 l1 x5_1).f3)) = true := decide_eq_true c33
                            clear c33
                            have H' := Aside0.mk H
                            clear H
                            have hcz34_0 : wc.cell? ⟨gb134, 0, none⟩ = some (.int .i64 ((rd_T36 l1 x5_1).f0)) := (blk_cell BK134.out 0).trans rfl
                            have hcz34_1 : wc.cell? ⟨gb134, 1, none⟩ = some (.int .i64 ((rd_T36 l1 x5_1).f1)) := (blk_cell BK134.out 1).trans rfl
                            have hcz34_2 : wc.cell? ⟨gb134, 2, none⟩ = some (.int .i64 ((rd_T36 l1 x5_1).f2)) := (blk_cell BK134.out 2).trans rfl
                            have hcz34_3 : wc.cell? ⟨gb134, 3, none⟩ = some (.int .i64 ((rd_T36 l1 x5_1).f3)) := (blk_cell BK134.out 3).trans rfl
                            have hcz34_4 : wc.cell? ⟨gb134, 4, none⟩ = some (.int .i64 ((rd_T36 l1 x5_1).f4)) := (blk_cell BK134.out 4).trans rfl
                            have hcz34_5 : wc.cell? ⟨gb134, 5, none⟩ = some (.int .i64 ((rd_T36 l1 x5_1).f5)) := (blk_cell BK134.out 5).trans rfl
                            have hfz34_0 := blk_frozen BK134.out 0
                            have hfz34_1 := blk_frozen BK134.out 1
                            have hfz34_2 := blk_frozen BK134.out 2
                            have hfz34_3 := blk_frozen BK134.out 3
                            have hfz34_4 := blk_frozen BK134.out 4
                            have hfz34_5 := blk_frozen BK134.out 5
                            go_wp2
                            repeat (go_quiet (fail); try go_wp2)
                            go_meet
                            case rel => exact ⟨_, (true), (by first | rfl | (simp; done) | (simp [*]; done)), H', ⟨by have := HK1.out; have := HJ5.out; first | omega | exact Nat.le_refl _⟩, ⟨by (with_reducible repeat (first | refine blk_drewN ?_ _ | refine blk_drew ?_ | refine blk_alloc ?_ _)); exact BK134.out⟩, ⟨by repeat (first | (with_reducible first | exact HB.out | apply below_alloc | apply pw_below_drewN | apply below_drew1 | refine below_set ?_ GE134.out) | exact HB.out)⟩⟩
                          · rw [if_neg c33] at H
                            have c33b0 : decide (a0 ≤ ((rd_T36 l1 x5_1).f3)) = false := decide_eq_false c33
                            clear c33
                            have H' := Aside0.mk H
                            clear H
                            have hcz35_0 : wc.cell? ⟨gb134, 0, none⟩ = some (.int .i64 ((rd_T36 l1 x5_1).f0)) := (blk_cell BK134.out 0).trans rfl
                            have hcz35_1 : wc.cell? ⟨gb134, 1, none⟩ = some (.int .i64 ((rd_T36 l1 x5_1).f1)) := (blk_cell BK134.out 1).trans rfl
                            have hcz35_2 : wc.cell? ⟨gb134, 2, none⟩ = some (.int .i64 ((rd_T36 l1 x5_1).f2)) := (blk_cell BK134.out 2).trans rfl
                            have hcz35_3 : wc.cell? ⟨gb134, 3, none⟩ = some (.int .i64 ((rd_T36 l1 x5_1).f3)) := (blk_cell BK134.out 3).trans rfl
                            have hcz35_4 : wc.cell? ⟨gb134, 4, none⟩ = some (.int .i64 ((rd_T36 l1 x5_1).f4)) := (blk_cell BK134.out 4).trans rfl
                            have hcz35_5 : wc.cell? ⟨gb134, 5, none⟩ = some (.int .i64 ((rd_T36 l1 x5_1).f5)) := (blk_cell BK134.out 5).trans rfl
                            have hfz35_0 := blk_frozen BK134.out 0
                            have hfz35_1 := blk_frozen BK134.out 1
                            have hfz35_2 := blk_frozen BK134.out 2
                            have hfz35_3 := blk_frozen BK134.out 3
                            have hfz35_4 := blk_frozen BK134.out 4
                            have hfz35_5 := blk_frozen BK134.out 5
                            go_wp2
                            repeat (go_quiet (fail); try go_wp2)
                            go_meet
                            case rel => exact ⟨_, ((((rd_T36 l1 x5_1).f2) == ((rd_T36 l1 x5_1).f3))), (by first | rfl | (simp; done) | (simp [*]; done)), H', ⟨by have := HK1.out; have := HJ5.out; first | omega | exact Nat.le_refl _⟩, ⟨by (with_reducible repeat (first | refine blk_drewN ?_ _ | refine blk_drew ?_ | refine blk_alloc ?_ _)); exact BK134.out⟩, ⟨by repeat (first | (with_reducible first | exact HB.out | apply below_alloc | apply pw_below_drewN | apply below_drew1 | refine below_set ?_ GE134.out) | exact HB.out)⟩⟩
                  case rest =>
                    clear HC26
                    try clear c1
                    try clear p1
                    try clear q1
                    try clear hx1
                    try clear c2
                    try clear p2
                    try clear c3
                    try clear c3b0
                    try clear c3b1
                    try clear c4
                    try clear c4b0
                    try clear c5
                    try clear c5b0
                    try clear c10
                    try clear c11
                    try clear c11b0
                    try clear c11b1
                    try clear c13
                    try clear c13b0
                    try clear p13
                    try clear q13
                    try clear hx13
                    try clear c16
                    try clear c18
                    try clear c19
                    try clear c19b0
                    try clear c19b1
                    try clear c25
                    try clear c27
                    try clear c27b0
                    try clear c27b1
                    try clear c29
                    try clear c29b0
                    try clear c31
                    try clear c31b0
                    try clear c33
                    try clear c33b0
                    try clear hcz12_0
                    try clear hcz12_1
                    try clear hcz12_2
                    try clear hcz12_3
                    try clear hcz12_4
                    try clear hcz12_5
                    try clear hcz14_0
                    try clear hcz14_1
                    try clear hcz14_2
                    try clear hcz14_3
                    try clear hcz14_4
                    try clear hcz14_5
                    try clear hcz20_0
                    try clear hcz20_1
                    try clear hcz20_2
                    try clear hcz20_3
                    try clear hcz20_4
                    try clear hcz20_5
                    try clear hcz21_0
                    try clear hcz21_1
                    try clear hcz21_2
                    try clear hcz21_3
                    try clear hcz21_4
                    try clear hcz21_5
                    try clear hcz22_0
                    try clear hcz22_1
                    try clear hcz22_2
                    try clear hcz22_3
                    try clear hcz22_4
                    try clear hcz22_5
                    try clear hcz23_0
                    try clear hcz23_1
                    try clear hcz23_2
                    try clear hcz23_3
                    try clear hcz23_4
                    try clear hcz23_5
                    try clear hcz24_0
                    try clear hcz24_1
                    try clear hcz24_2
                    try clear hcz24_3
                    try clear hcz24_4
                    try clear hcz24_5
                    try clear hcz28_0
                    try clear hcz28_1
                    try clear hcz28_2
                    try clear hcz28_3
                    try clear hcz28_4
                    try clear hcz28_5
                    try clear hcz30_0
                    try clear hcz30_1
                    try clear hcz30_2
                    try clear hcz30_3
                    try clear hcz30_4
                    try clear hcz30_5
                    try clear hcz32_0
                    try clear hcz32_1
                    try clear hcz32_2
                    try clear hcz32_3
                    try clear hcz32_4
                    try clear hcz32_5
                    try clear hcz34_0
                    try clear hcz34_1
                    try clear hcz34_2
                    try clear hcz34_3
                    try clear hcz34_4
                    try clear hcz34_5
                    try clear hcz35_0
                    try clear hcz35_1
                    try clear hcz35_2
                    try clear hcz35_3
                    try clear hcz35_4
                    try clear hcz35_5
                    try clear hcz8_0
                    try clear hcz8_1
                    try clear hcz8_2
                    try clear hcz8_3
                    try clear hcz8_4
                    try clear hcz8_5
                    try clear hfz12_0
                    try clear hfz12_1
                    try clear hfz12_2
                    try clear hfz12_3
                    try clear hfz12_4
                    try clear hfz12_5
                    try clear hfz14_0
                    try clear hfz14_1
                    try clear hfz14_2
                    try clear hfz14_3
                    try clear hfz14_4
                    try clear hfz14_5
                    try clear hfz20_0
                    try clear hfz20_1
                    try clear hfz20_2
                    try clear hfz20_3
                    try clear hfz20_4
                    try clear hfz20_5
                    try clear hfz21_0
                    try clear hfz21_1
                    try clear hfz21_2
                    try clear hfz21_3
                    try clear hfz21_4
                    try clear hfz21_5
                    try clear hfz22_0
                    try clear hfz22_1
                    try clear hfz22_2
                    try clear hfz22_3
                    try clear hfz22_4
                    try clear hfz22_5
                    try clear hfz23_0
                    try clear hfz23_1
                    try clear hfz23_2
                    try clear hfz23_3
                    try clear hfz23_4
                    try clear hfz23_5
                    try clear hfz24_0
                    try clear hfz24_1
                    try clear hfz24_2
                    try clear hfz24_3
                    try clear hfz24_4
                    try clear hfz24_5
                    try clear hfz28_0
                    try clear hfz28_1
                    try clear hfz28_2
                    try clear hfz28_3
                    try clear hfz28_4
                    try clear hfz28_5
                    try clear hfz30_0
                    try clear hfz30_1
                    try clear hfz30_2
                    try clear hfz30_3
                    try clear hfz30_4
                    try clear hfz30_5
                    try clear hfz32_0
                    try clear hfz32_1
                    try clear hfz32_2
                    try clear hfz32_3
                    try clear hfz32_4
                    try clear hfz32_5
                    try clear hfz34_0
                    try clear hfz34_1
                    try clear hfz34_2
                    try clear hfz34_3
                    try clear hfz34_4
                    try clear hfz34_5
                    try clear hfz35_0
                    try clear hfz35_1
                    try clear hfz35_2
                    try clear hfz35_3
                    try clear hfz35_4
                    try clear hfz35_5
                    try clear hfz8_0
                    try clear hfz8_1
                    try clear hfz8_2
                    try clear hfz8_3
                    try clear hfz8_4
                    try clear hfz8_5
                    try clear hx133_0
                    try clear hx133_1
                    try clear hx133_2
                    try clear hx133_3
                    try clear hx133_4
                    try clear hx133_5
                    try clear p1
                    try clear p13
                    try clear p133
                    try clear p2
                    try clear q1
                    try clear q13
                    try clear q133
                    obtain ⟨kq, x82_25, rfl, HA, HJ25, BK134, HB⟩ := hcut
                    cases kq with
                    | zero => exact absurd HA.out (by simp [insolvencyref25_Check.j2])
                    | succ kj25 =>
                      have H := HA.out
                      clear HA
                      simp only [insolvencyref25_Check.j2] at H
                      by_cases c36 : x82_25 = true
                      · subst c36
                        have H1 : (some 14) = some r := by rw [if_pos rfl] at H; exact H
                        clear H
                        have H := H1
                        clear H1
                        obtain rfl := Option.some.inj H
                        go_wp2
                        repeat (go_quiet (fail); try go_wp2)
                        go_ret
                        exact ⟨by first | rfl | (simp [errW_none, errW_some] <;> rfl) | (simp [*, errW_none, errW_some] <;> rfl), by repeat (first | (with_reducible first | exact HB.out | apply below_alloc | apply pw_below_drewN | apply below_drew1 | refine below_set ?_ GE134.out) | exact HB.out)⟩
                      · replace c36 := Bool.eq_false_iff.mpr c36
                        subst c36
                        have H1 : (if x5_1 > 0 then (if 0 ≤ (wrap64 (x5_1 - 1)) then (if (wrap64 (x5_1 - 1)) < (l1.length : Int) then (if ((rd_T36 l1 x5_1).f0) < ((rd_T36 l1 (wrap64 (x5_1 - 1))).f0) then (some 15) else (insolvencyref25_Check.l0 kj25 a0 l1 (wrap64 (x5_1 + 1)))) else (none)) else (none)) else (insolvencyref25_Check.l0 kj25 a0 l1 (wrap64 (x5_1 + 1)))) = some r := by rw [if_neg (show ¬ (false = true) by decide)] at H; exact H
                        clear H
                        have H := H1
                        clear H1
                        by_cases c37 : x5_1 > 0
                        · rw [if_pos c37] at H
                          have c37b0 : decide (0 < x5_1) = true := decide_eq_true c37
                          clear c37
                          obtain ⟨ji38, hji38⟩ : ∃ j_ : Int, (wrap64 (x5_1 - 1)) = j_ := ⟨_, rfl⟩
                          replace H : (if 0 ≤ (ji38) then (if (ji38) < (l1.length : Int) then (if ((rd_T36 l1 x5_1).f0) < ((rd_T36 l1 (ji38)).f0) then (some 15) else (insolvencyref25_Check.l0 kj25 a0 l1 (wrap64 (x5_1 + 1)))) else (none)) else (none)) = some r := by first | (rw [hji38] at H; exact H) | (simp only [hji38] at H ⊢; exact H)
                          have hji38w : (IntKind.i64.wrap (x5_1 - 1)) = ji38 := (i64_w _).trans hji38
                          by_cases c39 : 0 ≤ (ji38)
                          · rw [if_pos c39] at H
                            have c39b0 : decide (0 ≤ (ji38)) = true := decide_eq_true c39
                            clear c39
                            by_cases c40 : (ji38) < (l1.length : Int)
                            · rw [if_pos c40] at H
                              have c40b0 : decide ((ji38) < (l1.length : Int)) = true := decide_eq_true c40
                              clear c40
                              by_cases c41 : ((rd_T36 l1 x5_1).f0) < ((rd_T36 l1 (ji38)).f0)
                              · rw [if_pos c41] at H
                                have c41b0 : decide (((rd_T36 l1 x5_1).f0) < ((rd_T36 l1 (ji38)).f0)) = true := decide_eq_true c41
                                clear c41
                                obtain rfl := Option.some.inj H
                                have hcz42_0 : wc.cell? ⟨gb134, 0, none⟩ = some (.int .i64 ((rd_T36 l1 x5_1).f0)) := (blk_cell BK134.out 0).trans rfl
                                have hcz42_1 : wc.cell? ⟨gb134, 1, none⟩ = some (.int .i64 ((rd_T36 l1 x5_1).f1)) := (blk_cell BK134.out 1).trans rfl
                                have hcz42_2 : wc.cell? ⟨gb134, 2, none⟩ = some (.int .i64 ((rd_T36 l1 x5_1).f2)) := (blk_cell BK134.out 2).trans rfl
                                have hcz42_3 : wc.cell? ⟨gb134, 3, none⟩ = some (.int .i64 ((rd_T36 l1 x5_1).f3)) := (blk_cell BK134.out 3).trans rfl
                                have hcz42_4 : wc.cell? ⟨gb134, 4, none⟩ = some (.int .i64 ((rd_T36 l1 x5_1).f4)) := (blk_cell BK134.out 4).trans rfl
                                have hcz42_5 : wc.cell? ⟨gb134, 5, none⟩ = some (.int .i64 ((rd_T36 l1 x5_1).f5)) := (blk_cell BK134.out 5).trans rfl
                                have hfz42_0 := blk_frozen BK134.out 0
                                have hfz42_1 := blk_frozen BK134.out 1
                                have hfz42_2 := blk_frozen BK134.out 2
                                have hfz42_3 := blk_frozen BK134.out 3
                                have hfz42_4 := blk_frozen BK134.out 4
                                have hfz42_5 := blk_frozen BK134.out 5
                                have p138 : 0 ≤ ((ji38) : Int) := of_decide_eq_true (by first | (with_reducible assumption) | assumption)
                                have q138 : (ji38) < (l1.length : Int) := of_decide_eq_true (by first | (with_reducible assumption) | assumption)
                                obtain ⟨ad138, e138, hx138_0, hx138_1, hx138_2, hx138_3, hx138_4, hx138_5⟩ := at_T36 HR1.out (ji38) p138 q138
                                obtain rfl : ad133 = ad138 := (by injection e138)
                                replace hx138_0 := (HB.out.cell (World.block_lt_of_cell? w _ hx138_0)).trans hx138_0
                                replace hx138_1 := (HB.out.cell (World.block_lt_of_cell? w _ hx138_1)).trans hx138_1
                                replace hx138_2 := (HB.out.cell (World.block_lt_of_cell? w _ hx138_2)).trans hx138_2
                                replace hx138_3 := (HB.out.cell (World.block_lt_of_cell? w _ hx138_3)).trans hx138_3
                                replace hx138_4 := (HB.out.cell (World.block_lt_of_cell? w _ hx138_4)).trans hx138_4
                                replace hx138_5 := (HB.out.cell (World.block_lt_of_cell? w _ hx138_5)).trans hx138_5
                                replace p138 := eq_true p138
                                replace q138 := eq_true q138
                                go_wp2
                                repeat (go_quiet (fail); try go_wp2)
                                go_ret
                                exact ⟨by first | rfl | (simp [errW_none, errW_some] <;> rfl) | (simp only [← hji38]; first | rfl | (simp [errW_none, errW_some] <;> rfl)) | (simp [*, errW_none, errW_some] <;> rfl), by repeat (first | (with_reducible first | exact HB.out | apply below_alloc | apply pw_below_drewN | apply below_drew1 | refine below_set ?_ GE134.out) | exact HB.out)⟩
                              · rw [if_neg c41] at H
                                have c41b0 : decide (((rd_T36 l1 x5_1).f0) < ((rd_T36 l1 (ji38)).f0)) = false := decide_eq_false c41
                                clear c41
                                have H' := Aside0.mk H
                                clear H
                                have hcz43_0 : wc.cell? ⟨gb134, 0, none⟩ = some (.int .i64 ((rd_T36 l1 x5_1).f0)) := (blk_cell BK134.out 0).trans rfl
                                have hcz43_1 : wc.cell? ⟨gb134, 1, none⟩ = some (.int .i64 ((rd_T36 l1 x5_1).f1)) := (blk_cell BK134.out 1).trans rfl
                                have hcz43_2 : wc.cell? ⟨gb134, 2, none⟩ = some (.int .i64 ((rd_T36 l1 x5_1).f2)) := (blk_cell BK134.out 2).trans rfl
                                have hcz43_3 : wc.cell? ⟨gb134, 3, none⟩ = some (.int .i64 ((rd_T36 l1 x5_1).f3)) := (blk_cell BK134.out 3).trans rfl
                                have hcz43_4 : wc.cell? ⟨gb134, 4, none⟩ = some (.int .i64 ((rd_T36 l1 x5_1).f4)) := (blk_cell BK134.out 4).trans rfl
                                have hcz43_5 : wc.cell? ⟨gb134, 5, none⟩ = some (.int .i64 ((rd_T36 l1 x5_1).f5)) := (blk_cell BK134.out 5).trans rfl
                                have hfz43_0 := blk_frozen BK134.out 0
                                have hfz43_1 := blk_frozen BK134.out 1
                                have hfz43_2 := blk_frozen BK134.out 2
                                have hfz43_3 := blk_frozen BK134.out 3
                                have hfz43_4 := blk_frozen BK134.out 4
                                have hfz43_5 := blk_frozen BK134.out 5
                                have p138 : 0 ≤ ((ji38) : Int) := of_decide_eq_true (by first | (with_reducible assumption) | assumption)
                                have q138 : (ji38) < (l1.length : Int) := of_decide_eq_true (by first | (with_reducible assumption) | assumption)
                                obtain ⟨ad138, e138, hx138_0, hx138_1, hx138_2, hx138_3, hx138_4, hx138_5⟩ := at_T36 HR1.out (ji38) p138 q138
                                obtain rfl : ad133 = ad138 := (by injection e138)
                                replace hx138_0 := (HB.out.cell (World.block_lt_of_cell? w _ hx138_0)).trans hx138_0
                                replace hx138_1 := (HB.out.cell (World.block_lt_of_cell? w _ hx138_1)).trans hx138_1
                                replace hx138_2 := (HB.out.cell (World.block_lt_of_cell? w _ hx138_2)).trans hx138_2
                                replace hx138_3 := (HB.out.cell (World.block_lt_of_cell? w _ hx138_3)).trans hx138_3
                                replace hx138_4 := (HB.out.cell (World.block_lt_of_cell? w _ hx138_4)).trans hx138_4
                                replace hx138_5 := (HB.out.cell (World.block_lt_of_cell? w _ hx138_5)).trans hx138_5
                                replace p138 := eq_true p138
                                replace q138 := eq_true q138
                                go_wp2
                                repeat (go_quiet (fail); try go_wp2)
                                go_roundg kj25
                                case measure => have := HK1.out; have := HJ5.out; have := HJ25.out; omega
                                case rel => exact ⟨(wrap64 (x5_1 + 1)), (by first | rfl | (simp; done) | (simp [*]; done)), H', ⟨by have := HK1.out; have := HJ5.out; have := HJ25.out; omega⟩, ⟨by repeat (first | (with_reducible first | exact HB.out | apply below_alloc | apply pw_below_drewN | apply below_drew1 | refine below_set ?_ GE134.out) | exact HB.out)⟩⟩
                            · rw [if_neg c40] at H
                              exact absurd H (by simp)
                          · rw [if_neg c39] at H
                            exact absurd H (by simp)
                        · rw [if_neg c37] at H
                          have c37b0 : decide (0 < x5_1) = false := decide_eq_false c37
                          clear c37
                          have H' := Aside0.mk H
                          clear H
                          go_wp2
                          repeat (go_quiet (fail); try go_wp2)
                          go_roundg kj25
                          case measure => have := HK1.out; have := HJ5.out; have := HJ25.out; omega
                          case rel => exact ⟨(wrap64 (x5_1 + 1)), (by first | rfl | (simp; done) | (simp [*]; done)), H', ⟨by have := HK1.out; have := HJ5.out; have := HJ25.out; omega⟩, ⟨by repeat (first | (with_reducible first | exact HB.out | apply below_alloc | apply pw_below_drewN | apply below_drew1 | refine below_set ?_ GE134.out) | exact HB.out)⟩⟩
          · rw [if_neg c5] at H
            exact absurd H (by simp)
        · rw [if_neg c4] at H
          have c4b0 : decide (x5_1 < (l1.length : Int)) = false := decide_eq_false c4
          clear c4
          obtain rfl := Option.some.inj H
          go_wp2
          repeat (go_quiet (fail); try go_wp2)
          go_ret
          exact ⟨by first | rfl | (simp [errW_none, errW_some] <;> rfl) | (simp [*, errW_none, errW_some] <;> rfl), by repeat (first | (with_reducible first | exact HB.out | apply below_alloc | apply pw_below_drewN | apply below_drew1) | exact HB.out)⟩

end Go.Proofs.Ytljenpakncmlkaa.PAll
