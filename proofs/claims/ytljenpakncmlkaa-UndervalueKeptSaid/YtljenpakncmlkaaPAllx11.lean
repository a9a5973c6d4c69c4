-- PRINTED by a session's own changed print
import Derived.Test.YtljenpakncmlkaaPAllx0
import Derived.Test.YtljenpakncmlkaaPAllx3
import Derived.Test.YtljenpakncmlkaaPAllx9
import Derived.Test.YtljenpakncmlkaaOpenings
import Derived.Test.YtljenpakncmlkaaTracerTraceW
namespace Go.Proofs.Ytljenpakncmlkaa.PAll
open Go.RowKit Go.Proofs.YtljenpakncmlkaaW.PrintWords Go.Proofs.YtljenpakncmlkaaW.PrintLast Go.Proofs.YtljenpakncmlkaaW.PrintMore
attribute [local go_sem] max2_int min2_int max_two min_two max_three min_three max_four min_four   -- for this text's walks alone
set_option linter.unusedVariables false
set_option linter.unusedSimpArgs false

/-! ### insolvencylaw27_UndervalueKept: function 5 -/
mutual
def insolvencylaw27_UndervalueKept.j0 : Nat → List (S36) → Int → Bool → Int → Int → Int → Int → Option (Bool)
  | 0, _, _, _, _, _, _, _ => none
  | k + 1, x7, x8, x33, x230000, x230001, x230002, x230003 => if x33 = true then ((insolvencylaw27_awake.f k).bind fun t235 => (some t235)) else (if 0 ≤ x8 then (if x8 < (x7.length : Int) then (if 0 ≤ (wrap64 (x8 + 1)) then (if (wrap64 (x8 + 1)) ≤ (x7.length : Int) then ((insolvencylaw27_openings.f k x230000 x230001 x230002 x230003).bind fun t241 => (if 0 ≤ ((rd_T36 x7 x8).f3) then (if ((rd_T36 x7 x8).f3) < (t241.length : Int) then ((insolvencyref25_Balance.f k (x7.take ((wrap64 (x8 + 1)) : Int).toNat) ((rd_T36 x7 x8).f3) (rd t241 ((rd_T36 x7 x8).f3)) 1048576).bind fun t245 => (insolvencylaw27_UndervalueKept.l0 k x7 x8 ((rd_T36 x7 x8).f3) t245 t245 false (wrap64 (x8 + 1)) x230000 x230001 x230002 x230003)) else (none)) else (none))) else (none)) else (none)) else (none)) else (none))
def insolvencylaw27_UndervalueKept.l0 : Nat → List (S36) → Int → Int → Int → Int → Bool → Int → Int → Int → Int → Int → Option (Bool)
  | 0, _, _, _, _, _, _, _, _, _, _, _ => none
  | k + 1, x7, x8, x9, x10, x11, x12, x13, x230000, x230001, x230002, x230003 => if x13 < (x7.length : Int) then (if 0 ≤ x13 then ((insolvencyref25_Money.f k ((rd_T36 x7 x13).f0) ((rd_T36 x7 x13).f1) ((rd_T36 x7 x13).f2) ((rd_T36 x7 x13).f3) ((rd_T36 x7 x13).f4) ((rd_T36 x7 x13).f5) x9).bind fun t247 => (if x12 = true then (insolvencylaw27_UndervalueKept.l0 k x7 x8 x9 (mn x10 (wrap64 (x11 + t247))) (wrap64 (x11 + t247)) true (wrap64 (x13 + 1)) x230000 x230001 x230002 x230003) else (insolvencylaw27_UndervalueKept.l0 k x7 x8 x9 (mn x10 (wrap64 (x11 + t247))) (wrap64 (x11 + t247)) (decide (t247 < 0)) (wrap64 (x13 + 1)) x230000 x230001 x230002 x230003))) else (none)) else ((insolvencylaw27_openings.f k x230000 x230001 x230002 x230003).bind fun t248 => ((undervalue_Trace.f k x7 t248 x8).bind fun bt251 => (if bt251.2.2 = 0 then (insolvencylaw27_UndervalueKept.j2 k x7 x8 x9 x10 x12 bt251.1 ((bt251.1.length : Int) != 4)) else (insolvencylaw27_UndervalueKept.j2 k x7 x8 x9 x10 x12 bt251.1 true))))
def insolvencylaw27_UndervalueKept.j2 : Nat → List (S36) → Int → Int → Int → Bool → List Int → Bool → Option (Bool)
  | 0, _, _, _, _, _, _, _ => none
  | k + 1, x7, x8, x9, x10, x12, x15, x92 => if x92 = true then (some false) else (if x12 = true then ((insolvencylaw27_awake.f k).bind fun t256 => (some t256)) else ((insolvencylaw27_awake.f k).bind fun t257 => (if t257 = true then (if 0 ≤ x9 then (if x9 < (x15.length : Int) then (if 0 ≤ x8 then (if x8 < (x7.length : Int) then (some ((rd x15 x9) == (mn ((rd_T36 x7 x8).f4) (mx x10 0)))) else (none)) else (none)) else (none)) else (none)) else (some false))))
end
def insolvencylaw27_UndervalueKept.f (k : Nat) (l0 : List (S43)) (a1_0 : Int) (a1_1 : Int) (a1_2 : Int) (a1_3 : Int) (a2 : Int) : Option (Bool) := (insolvencylaw0_Rows.f k l0 4 16).bind fun t230 => ((insolvencylaw27_payment.f k t230 a2).bind fun t233 => (if (t230.length : Int) = 0 then (insolvencylaw27_UndervalueKept.j0 k t230 t233 true a1_0 a1_1 a1_2 a1_3) else (if 0 ≤ t233 then (if t233 < (t230.length : Int) then (insolvencylaw27_UndervalueKept.j0 k t230 t233 (((rd_T36 t230 t233).f1) != 1) a1_0 a1_1 a1_2 a1_3) else (none)) else (none))))
theorem insolvencylaw27_UndervalueKept.mono_l : ∀ k, (∀ y0 y1 y2 y3 y4 y5 y6, LeO (insolvencylaw27_UndervalueKept.j0 k y0 y1 y2 y3 y4 y5 y6) (insolvencylaw27_UndervalueKept.j0 (k + 1) y0 y1 y2 y3 y4 y5 y6)) ∧ (∀ y0 y1 y2 y3 y4 y5 y6 y7 y8 y9 y10, LeO (insolvencylaw27_UndervalueKept.l0 k y0 y1 y2 y3 y4 y5 y6 y7 y8 y9 y10) (insolvencylaw27_UndervalueKept.l0 (k + 1) y0 y1 y2 y3 y4 y5 y6 y7 y8 y9 y10)) ∧ (∀ y0 y1 y2 y3 y4 y5 y6, LeO (insolvencylaw27_UndervalueKept.j2 k y0 y1 y2 y3 y4 y5 y6) (insolvencylaw27_UndervalueKept.j2 (k + 1) y0 y1 y2 y3 y4 y5 y6))
  | 0 => ⟨fun _ _ _ _ _ _ _ r h => by simp [insolvencylaw27_UndervalueKept.j0] at h, fun _ _ _ _ _ _ _ _ _ _ _ r h => by simp [insolvencylaw27_UndervalueKept.l0] at h, fun _ _ _ _ _ _ _ r h => by simp [insolvencylaw27_UndervalueKept.j2] at h⟩
  | k + 1 => by
    obtain ⟨ih0, ih1, ih2⟩ := insolvencylaw27_UndervalueKept.mono_l k
    refine ⟨?_, ?_, ?_⟩
    · intro y0 y1 y2 y3 y4 y5 y6
      unfold insolvencylaw27_UndervalueKept.j0
      repeat' first
      | (with_reducible exact ih0 _ _ _ _ _ _ _)
      | (with_reducible exact ih1 _ _ _ _ _ _ _ _ _ _ _)
      | (with_reducible exact ih2 _ _ _ _ _ _ _)
      | (with_reducible exact insolvencylaw0_Rows.mono _ _ _ _)
      | (with_reducible exact insolvencylaw27_awake.mono _)
      | (with_reducible exact insolvencylaw27_openings.mono _ _ _ _ _)
      | (with_reducible exact insolvencylaw27_payment.mono _ _ _)
      | (with_reducible exact insolvencyref25_Balance.mono _ _ _ _ _)
      | (with_reducible exact insolvencyref25_Money.mono _ _ _ _ _ _ _ _)
      | (with_reducible exact undervalue_Trace.mono _ _ _ _)
      | (with_reducible exact LeO.refl _)
      | (with_reducible exact LeO.none _)
      | (with_reducible refine LeO.ite ?_ ?_)
      | (with_reducible refine LeO.bind ?_ (fun _ => ?_))
      | exact ih0 _ _ _ _ _ _ _
      | exact ih1 _ _ _ _ _ _ _ _ _ _ _
      | exact ih2 _ _ _ _ _ _ _
      | exact insolvencylaw0_Rows.mono _ _ _ _
      | exact insolvencylaw27_awake.mono _
      | exact insolvencylaw27_openings.mono _ _ _ _ _
      | exact insolvencylaw27_payment.mono _ _ _
      | exact insolvencyref25_Balance.mono _ _ _ _ _
      | exact insolvencyref25_Money.mono _ _ _ _ _ _ _ _
      | exact undervalue_Trace.mono _ _ _ _
      | exact LeO.none _
      | refine LeO.ite ?_ ?_
      | refine LeO.bind ?_ (fun _ => ?_)
    · intro y0 y1 y2 y3 y4 y5 y6 y7 y8 y9 y10
      unfold insolvencylaw27_UndervalueKept.l0
      repeat' first
      | (with_reducible exact ih0 _ _ _ _ _ _ _)
      | (with_reducible exact ih1 _ _ _ _ _ _ _ _ _ _ _)
      | (with_reducible exact ih2 _ _ _ _ _ _ _)
      | (with_reducible exact insolvencylaw0_Rows.mono _ _ _ _)
      | (with_reducible exact insolvencylaw27_awake.mono _)
      | (with_reducible exact insolvencylaw27_openings.mono _ _ _ _ _)
      | (with_reducible exact insolvencylaw27_payment.mono _ _ _)
      | (with_reducible exact insolvencyref25_Balance.mono _ _ _ _ _)
      | (with_reducible exact insolvencyref25_Money.mono _ _ _ _ _ _ _ _)
      | (with_reducible exact undervalue_Trace.mono _ _ _ _)
      | (with_reducible exact LeO.refl _)
      | (with_reducible exact LeO.none _)
      | (with_reducible refine LeO.ite ?_ ?_)
      | (with_reducible refine LeO.bind ?_ (fun _ => ?_))
      | exact ih0 _ _ _ _ _ _ _
      | exact ih1 _ _ _ _ _ _ _ _ _ _ _
      | exact ih2 _ _ _ _ _ _ _
      | exact insolvencylaw0_Rows.mono _ _ _ _
      | exact insolvencylaw27_awake.mono _
      | exact insolvencylaw27_openings.mono _ _ _ _ _
      | exact insolvencylaw27_payment.mono _ _ _
      | exact insolvencyref25_Balance.mono _ _ _ _ _
      | exact insolvencyref25_Money.mono _ _ _ _ _ _ _ _
      | exact undervalue_Trace.mono _ _ _ _
      | exact LeO.none _
      | refine LeO.ite ?_ ?_
      | refine LeO.bind ?_ (fun _ => ?_)
    · intro y0 y1 y2 y3 y4 y5 y6
      unfold insolvencylaw27_UndervalueKept.j2
      repeat' first
      | (with_reducible exact ih0 _ _ _ _ _ _ _)
      | (with_reducible exact ih1 _ _ _ _ _ _ _ _ _ _ _)
      | (with_reducible exact ih2 _ _ _ _ _ _ _)
      | (with_reducible exact insolvencylaw0_Rows.mono _ _ _ _)
      | (with_reducible exact insolvencylaw27_awake.mono _)
      | (with_reducible exact insolvencylaw27_openings.mono _ _ _ _ _)
      | (with_reducible exact insolvencylaw27_payment.mono _ _ _)
      | (with_reducible exact insolvencyref25_Balance.mono _ _ _ _ _)
      | (with_reducible exact insolvencyref25_Money.mono _ _ _ _ _ _ _ _)
      | (with_reducible exact undervalue_Trace.mono _ _ _ _)
      | (with_reducible exact LeO.refl _)
      | (with_reducible exact LeO.none _)
      | (with_reducible refine LeO.ite ?_ ?_)
      | (with_reducible refine LeO.bind ?_ (fun _ => ?_))
      | exact ih0 _ _ _ _ _ _ _
      | exact ih1 _ _ _ _ _ _ _ _ _ _ _
      | exact ih2 _ _ _ _ _ _ _
      | exact insolvencylaw0_Rows.mono _ _ _ _
      | exact insolvencylaw27_awake.mono _
      | exact insolvencylaw27_openings.mono _ _ _ _ _
      | exact insolvencylaw27_payment.mono _ _ _
      | exact insolvencyref25_Balance.mono _ _ _ _ _
      | exact insolvencyref25_Money.mono _ _ _ _ _ _ _ _
      | exact undervalue_Trace.mono _ _ _ _
      | exact LeO.none _
      | refine LeO.ite ?_ ?_
      | refine LeO.bind ?_ (fun _ => ?_)
theorem insolvencylaw27_UndervalueKept.mono : ∀ a0 a1 a2 a3 a4 a5 k, LeO (insolvencylaw27_UndervalueKept.f k a0 a1 a2 a3 a4 a5) (insolvencylaw27_UndervalueKept.f (k + 1) a0 a1 a2 a3 a4 a5) := by
  intro a0 a1 a2 a3 a4 a5 k
  obtain ⟨ih0, ih1, ih2⟩ := insolvencylaw27_UndervalueKept.mono_l k
  unfold insolvencylaw27_UndervalueKept.f
  repeat' first
      | (with_reducible exact ih0 _ _ _ _ _ _ _)
      | (with_reducible exact ih1 _ _ _ _ _ _ _ _ _ _ _)
      | (with_reducible exact ih2 _ _ _ _ _ _ _)
      | (with_reducible exact insolvencylaw0_Rows.mono _ _ _ _)
      | (with_reducible exact insolvencylaw27_awake.mono _)
      | (with_reducible exact insolvencylaw27_openings.mono _ _ _ _ _)
      | (with_reducible exact insolvencylaw27_payment.mono _ _ _)
      | (with_reducible exact insolvencyref25_Balance.mono _ _ _ _ _)
      | (with_reducible exact insolvencyref25_Money.mono _ _ _ _ _ _ _ _)
      | (with_reducible exact undervalue_Trace.mono _ _ _ _)
      | (with_reducible exact LeO.refl _)
      | (with_reducible exact LeO.none _)
      | (with_reducible refine LeO.ite ?_ ?_)
      | (with_reducible refine LeO.bind ?_ (fun _ => ?_))
      | exact ih0 _ _ _ _ _ _ _
      | exact ih1 _ _ _ _ _ _ _ _ _ _ _
      | exact ih2 _ _ _ _ _ _ _
      | exact insolvencylaw0_Rows.mono _ _ _ _
      | exact insolvencylaw27_awake.mono _
      | exact insolvencylaw27_openings.mono _ _ _ _ _
      | exact insolvencylaw27_payment.mono _ _ _
      | exact insolvencyref25_Balance.mono _ _ _ _ _
      | exact insolvencyref25_Money.mono _ _ _ _ _ _ _ _
      | exact undervalue_Trace.mono _ _ _ _
      | exact LeO.none _
      | refine LeO.ite ?_ ?_
      | refine LeO.bind ?_ (fun _ => ?_)
def insolvencylaw27_UndervalueKept.T6 : Bool × List (List Nat × List Nat) := (true, [([], []), ([], []), ([1], [1]), ([0, 2], [0, 2]), ([], []), ([], []), ([5], [5]), ([], []), ([6, 7], [6, 7]), ([8], [8]), ([3, 4, 9, 6], [3, 4, 9]), ([10, 10, 0, 1, 2, 3, 4, 5, 6, 7, 8, 9, 10], [10])])
def insolvencylaw27_UndervalueKept.B6 : List Nat := [0, 0, 2, 7, 0, 0, 32, 0, 224, 480, 1023, 2047]
theorem insolvencylaw27_UndervalueKept.tab6 : rtab .any (opsOf Try.f5 6) = insolvencylaw27_UndervalueKept.T6 := by kernel_rfl
theorem insolvencylaw27_UndervalueKept.bits6 : waitsOk insolvencylaw27_UndervalueKept.T6.2 insolvencylaw27_UndervalueKept.B6 = true := by kernel_rfl
def insolvencylaw27_UndervalueKept.T21 : Bool × List (List Nat × List Nat) := (true, [([], []), ([0, 0], [0]), ([1], [1]), ([1], [1]), ([2, 3, 1], [1, 2, 3]), ([4, 1], [1, 4]), ([1], [1]), ([1], [1]), ([6, 7, 1], [1, 6, 7]), ([8, 1], [1, 8]), ([9, 1], [1, 9]), ([1], [1]), ([11, 1], [1, 11]), ([10, 12, 1], [1, 10, 12]), ([5, 13, 1], [1, 5, 13]), ([1, 14], [1, 14]), ([15, 1, 0, 1, 2, 3, 4, 5, 6, 7, 8, 9, 10, 11, 12, 13, 14, 15], [15])])
def insolvencylaw27_UndervalueKept.B21 : List Nat := [0, 1, 3, 3, 15, 31, 3, 3, 195, 451, 963, 3, 2051, 8131, 16383, 32767, 65535]
theorem insolvencylaw27_UndervalueKept.tab21 : rtab .any (opsOf Try.f5 21) = insolvencylaw27_UndervalueKept.T21 := by kernel_rfl
theorem insolvencylaw27_UndervalueKept.bits21 : waitsOk insolvencylaw27_UndervalueKept.T21.2 insolvencylaw27_UndervalueKept.B21 = true := by kernel_rfl
theorem val_ {P : Program} {ops : Array Oper} {Q : Exit → Act → World → Prop} {oi : Oper} {N : Option Tmp} {a : Act} {w : World} {K : Act → World → Prop} (v : Value) (hw : Region.wanted oi (yielded ops a.tmps) = true) (hN : oi.dst = N) (hrun : (execOp a.eval oi).run P w = .ok (.value v) w) (h : K (a.put N v) w) : if Region.wanted oi (yielded ops a.tmps) = true then Oper.wp P oi a w K Q else K (a.put N undef) w := by
  rw [if_pos hw]
  subst hN
  unfold Oper.wp
  rw [hrun, Oper.upon_value]
  exact h
set_option maxHeartbeats 8000000 in
set_option maxRecDepth 100000 in
theorem insolvencylaw27_UndervalueKept.calls (k : Nat) (A0 : Option Addr) (c0 : Nat) (l0 : List (S43)) (a1_0 : Int) (a1_1 : Int) (a1_2 : Int) (a1_3 : Int) (a2 : Int) (r : Bool) (w : World) (hr0 : Kd.C k43 w A0 l0.length l0) (hc0 : l0.length ≤ c0) (h : insolvencylaw27_UndervalueKept.f k l0 a1_0 a1_1 a1_2 a1_3 a2 = some r) :
    Calls Try.prog 5 #[.slice A0 l0.length c0, .agg #[.int .u8 a1_0, .int .u8 a1_1, .int .u8 a1_2, .int .u8 a1_3], .int .u8 a2] w fun e w' => e = .returned (.bool r) ∧ Below w.heap.size w w' := by
  have hu23 := Try.underlying23
  have hu36 := Try.underlying36
  have HR0 := Aside0.mk hr0
  have HC0 := Aside0.mk hc0
  clear hr0 hc0
  have HB := Aside0.mk (Below.refl w.heap.size w)
  have H : ((insolvencylaw0_Rows.f k l0 4 16).bind fun t230 => ((insolvencylaw27_payment.f k t230 a2).bind fun t233 => (if (t230.length : Int) = 0 then (insolvencylaw27_UndervalueKept.j0 k t230 t233 true a1_0 a1_1 a1_2 a1_3) else (if 0 ≤ t233 then (if t233 < (t230.length : Int) then (insolvencylaw27_UndervalueKept.j0 k t230 t233 (((rd_T36 t230 t233).f1) != 1) a1_0 a1_1 a1_2 a1_3) else (none)) else (none))))) = some r := h
  clear h
  replace H := Option.bind_eq_some_iff.mp H
  obtain ⟨t230, A40, H⟩ := H
  replace H : ((insolvencylaw27_payment.f k t230 a2).bind fun t233 => (if (t230.length : Int) = 0 then (insolvencylaw27_UndervalueKept.j0 k t230 t233 true a1_0 a1_1 a1_2 a1_3) else (if 0 ≤ t233 then (if t233 < (t230.length : Int) then (insolvencylaw27_UndervalueKept.j0 k t230 t233 (((rd_T36 t230 t233).f1) != 1) a1_0 a1_1 a1_2 a1_3) else (none)) else (none)))) = some r := H
  have A4 := Aside0.mk A40
  clear A40
  replace H := Option.bind_eq_some_iff.mp H
  obtain ⟨t233, A50, H⟩ := H
  replace H : (if (t230.length : Int) = 0 then (insolvencylaw27_UndervalueKept.j0 k t230 t233 true a1_0 a1_1 a1_2 a1_3) else (if 0 ≤ t233 then (if t233 < (t230.length : Int) then (insolvencylaw27_UndervalueKept.j0 k t230 t233 (((rd_T36 t230 t233).f1) != 1) a1_0 a1_1 a1_2 a1_3) else (none)) else (none))) = some r := H
  have A5 := Aside0.mk A50
  clear A50
  have HC6 := Aside0.mk H
  clear H
  go_enter Try.func5, Try.ntmps5
  go_upto_region 3 with (first | ((with_reducible refine gate_dst (N := 4) rfl ?_); (try (refine gate_guard (by rfl) ?_; dsimp only)); refine box_event ?hg (N := 4) ?hd (cs := #[.int .u8 a1_0, .int .u8 a1_1, .int .u8 a1_2, .int .u8 a1_3]) (t := 23) ?hr ?_; (case hd => rfl); (case hg => rfl); (case hr => first | (go_simp; done) | (go_simp; rfl)); intro gb229 hg w7 hbox hb; have n0_ := Aside0.mk (below_step (by repeat (first | (with_reducible first | exact HB.out | apply below_alloc | apply pw_below_drewN | apply below_drew1) | exact HB.out)) hb); have n1_ := Aside0.mk (hbox); have n2_ := Aside0.mk ((by rw [hg]; exact (below_size (by repeat (first | (with_reducible first | exact HB.out | apply below_alloc | apply pw_below_drewN | apply below_drew1) | exact HB.out))) : w.heap.size ≤ gb229)); have n3_ := Aside0.mk ((by rw [hg]; exact (below_size (by repeat (first | (with_reducible first | exact HB.out | apply below_alloc | apply pw_below_drewN | apply below_drew1) | exact HB.out))) : w.heap.size ≤ gb229)); clear HB; have HB := n0_; have BK229 := n1_; have GW229 := n2_; have GE229 := n3_; clear n0_ n1_ n2_ n3_; clear hb hbox hg) | ((with_reducible refine gate_callee (f := 8) rfl ?_); refine goesL_ (some 19) rfl rfl Try.func8 (by kernel_rfl) rfl #[.slice A0 l0.length c0, .int .i64 4, .int .i64 16] rfl (by (try simp only [List.map_toArray, List.map_cons, List.map_nil]); first | done | rfl | (simp only [List.length_drop, List.length_take]; rfl)) ?_; (with_reducible refine (insolvencylaw0_Rows.calls k _ _ l0 4 16 t230 _ ?side1 ?side2 A4.out).mono ?_); (case side1 => repeat (first | exact (Kd.C_below HR0.out HB.out) | (with_reducible refine Kd.C_alloc ?_ _) | (with_reducible refine Kd.C_drewN ?_ _) | (with_reducible refine Kd.C_drew ?_))); (case side2 => exact HC0.out); rintro e w8 ⟨v231, rfl, ho0, hb⟩; refine ⟨_, rfl, ?_⟩; have n0_ := Aside0.mk (Kd.R_lower ho0 (below_size (by repeat (first | (with_reducible first | exact HB.out | apply below_alloc | apply pw_below_drewN | apply below_drew1 | refine below_set ?_ GE229.out) | exact HB.out)))); have n1_ := Aside0.mk (blk_below (g := gb229) (o := .cells #[.int .u8 a1_0, .int .u8 a1_1, .int .u8 a1_2, .int .u8 a1_3] 23 (0, 0)) (by (with_reducible repeat (first | refine blk_drewN ?_ _ | refine blk_drew ?_ | refine blk_alloc ?_ _)); exact BK229.out) hb); have n2_ := Aside0.mk (below_step (by repeat (first | (with_reducible first | exact HB.out | apply below_alloc | apply pw_below_drewN | apply below_drew1 | refine below_set ?_ GE229.out) | exact HB.out)) hb); clear BK229; clear HB; have HO232 := n0_; have BK229 := n1_; have HB := n2_; clear n0_ n1_ n2_; (try clear hb); (try clear hb2); (try clear hk); (try clear hi); (try clear ho0); obtain ⟨Ao9, co9, eo9⟩ := Kd.R_slice HO232.out; subst eo9) | ((with_reducible refine gate_callee (f := 11) rfl ?_); refine goesL_ (some 22) rfl rfl Try.func11 (by kernel_rfl) rfl #[.slice Ao9 t230.length co9, .int .u8 a2] rfl (by (try simp only [List.map_toArray, List.map_cons, List.map_nil]); first | done | rfl | (simp only [List.length_drop, List.length_take]; rfl)) ?_; (with_reducible refine (insolvencylaw27_payment.calls k _ _ t230 a2 t233 _ ?side1 ?side2 A5.out).mono ?_); (case side1 => repeat (first | exact (Kd.R_reads' HO232.out).2.2 | (with_reducible refine Kd.C_alloc ?_ _) | (with_reducible refine Kd.C_drewN ?_ _) | (with_reducible refine Kd.C_drew ?_))); (case side2 => exact (Kd.R_reads' HO232.out).2.1); rintro e w' ⟨rfl, ⟨nd, rfl⟩⟩; refine ⟨_, rfl, ?_⟩))
  (try simp only [Act.put, List.setIfInBounds_toArray, List.set_cons_zero, List.set_cons_succ])
  go_cut [33] (fun v33 wc => ∃ (kq : Nat) (x33_5 : Bool), v33 = .bool x33_5 ∧ Aside0 (insolvencylaw27_UndervalueKept.j0 kq t230 t233 x33_5 a1_0 a1_1 a1_2 a1_3 = some r) ∧ Aside0 (kq ≤ k) ∧ Aside0 (Kd.R k36 36 wc w.heap.size (fun _ => True) (.slice Ao9 t230.length co9) t230) ∧ Aside0 (wc.heap[gb229]? = some (.cells #[.int .u8 a1_0, .int .u8 a1_1, .int .u8 a1_2, .int .u8 a1_3] 23 (0, 0))) ∧ Aside0 (Below w.heap.size w wc))
  case first =>
    have H := HC6.out
    clear HC6
    by_cases c10 : (t230.length : Int) = 0
    · rw [if_pos c10] at H
      have c10b0 : ((t230.length : Int) == 0) = true := beq_iff_eq.mpr c10
      have c10b1 : ((t230.length : Int) != 0) = false := bne_eq_false_iff_eq.mpr c10
      clear c10
      (first | rw [c10b0] | (simp only [i64_w, i32_w]; rw [c10b0]) | rw [c10b1] | skip)
      have H' := Aside0.mk H
      clear H
      go_wp2
      go_meet
      case rel => exact ⟨_, (true), (by first | rfl | (simp; done) | (simp [*]; done)), H', ⟨by first | omega | exact Nat.le_refl _⟩, ⟨by (with_reducible repeat (first | apply Kd.R_alloc | apply Kd.R_drewN | apply Kd.R_drew)); exact HO232.out⟩, ⟨by (with_reducible repeat (first | refine blk_drewN ?_ _ | refine blk_drew ?_ | refine blk_alloc ?_ _)); exact BK229.out⟩, ⟨by repeat (first | (with_reducible first | exact HB.out | apply below_alloc | apply pw_below_drewN | apply below_drew1 | refine below_set ?_ GE229.out) | exact HB.out)⟩⟩
    · rw [if_neg c10] at H
      have c10b0 : ((t230.length : Int) == 0) = false := beq_eq_false_iff_ne.mpr c10
      have c10b1 : ((t230.length : Int) != 0) = true := bne_iff_ne.mpr c10
      have c10b2 : ¬ (t230 = []) := fun h_ => c10 (by rw [h_]; rfl)
      (first | rw [c10b0] | (simp only [i64_w, i32_w]; rw [c10b0]) | rw [c10b1] | skip)
      by_cases c11 : 0 ≤ t233
      · rw [if_pos c11] at H
        have c11b0 : decide (0 ≤ t233) = true := decide_eq_true c11
        clear c11
        by_cases c12 : t233 < (t230.length : Int)
        · rw [if_pos c12] at H
          have c12b0 : decide (t233 < (t230.length : Int)) = true := decide_eq_true c12
          clear c12
          have H' := Aside0.mk H
          clear H
          have p234 : 0 ≤ (t233 : Int) := of_decide_eq_true (by first | (with_reducible assumption) | assumption)
          have q234 : t233 < (t230.length : Int) := of_decide_eq_true (by first | (with_reducible assumption) | assumption)
          obtain ⟨ad234, e234, hx234_0, hx234_1, hx234_2, hx234_3, hx234_4, hx234_5⟩ := at_T36 (Kd.R_reads' HO232.out).2.2 t233 p234 q234
          cases e234
          replace p234 := eq_true p234
          replace q234 := eq_true q234
          go_wp2
          go_meet
          case rel => exact ⟨_, ((((rd_T36 t230 t233).f1) != 1)), (by first | rfl | (simp; done) | (simp [*]; done)), H', ⟨by first | omega | exact Nat.le_refl _⟩, ⟨by (with_reducible repeat (first | apply Kd.R_alloc | apply Kd.R_drewN | apply Kd.R_drew)); exact HO232.out⟩, ⟨by (with_reducible repeat (first | refine blk_drewN ?_ _ | refine blk_drew ?_ | refine blk_alloc ?_ _)); exact BK229.out⟩, ⟨by repeat (first | (with_reducible first | exact HB.out | apply below_alloc | apply pw_below_drewN | apply below_drew1 | refine below_set ?_ GE229.out) | exact HB.out)⟩⟩
        · rw [if_neg c12] at H
          exact absurd H (by simp)
      · rw [if_neg c11] at H
        exact absurd H (by simp)
  case rest =>
    clear HC6
    try clear c1
    try clear p2
    try clear q2
    try clear hx2
    try clear c5
    try clear c8
    try clear c10
    try clear c10b0
    try clear c10b1
    try clear c10b2
    try clear c11
    try clear c11b0
    try clear c12
    try clear c12b0
    try clear hx234_0
    try clear hx234_1
    try clear hx234_2
    try clear hx234_3
    try clear hx234_4
    try clear hx234_5
    try clear p234
    try clear q234
    obtain ⟨kq, x33_5, rfl, HA, HJ5, HO_7, BK229, HB⟩ := hcut
    cases kq with
    | zero => exact absurd HA.out (by simp [insolvencylaw27_UndervalueKept.j0])
    | succ kj5 =>
      have H := HA.out
      clear HA
      simp only [insolvencylaw27_UndervalueKept.j0] at H
      by_cases c13 : x33_5 = true
      · subst c13
        have H1 : ((insolvencylaw27_awake.f kj5).bind fun t235 => (some t235)) = some r := by rw [if_pos rfl] at H; exact H
        clear H
        have H := H1
        clear H1
        replace H := Option.bind_eq_some_iff.mp H
        obtain ⟨t235, A140, H⟩ := H
        replace H : (some t235) = some r := H
        have A14 := Aside0.mk A140
        clear A140
        obtain rfl := Option.some.inj H
        go_wp2_with (first | ((with_reducible refine gate_callee (f := 7) rfl ?_); refine goesL_ (some 34) rfl rfl Try.func7 (by kernel_rfl) rfl #[] rfl (by (try simp only [List.map_toArray, List.map_cons, List.map_nil]); first | done | rfl | (simp only [List.length_drop, List.length_take]; rfl)) ?_; (with_reducible refine (insolvencylaw27_awake.calls kj5  t235 _ A14.out).mono ?_); rintro e w15 ⟨rfl, hb⟩; refine ⟨_, rfl, ?_⟩; have n0_ := Aside0.mk (Kd.R_below (by (with_reducible repeat (first | apply Kd.R_alloc | apply Kd.R_drewN | apply Kd.R_drew)); exact HO_7.out) hb); have n1_ := Aside0.mk (blk_below (g := gb229) (o := .cells #[.int .u8 a1_0, .int .u8 a1_1, .int .u8 a1_2, .int .u8 a1_3] 23 (0, 0)) (by (with_reducible repeat (first | refine blk_drewN ?_ _ | refine blk_drew ?_ | refine blk_alloc ?_ _)); exact BK229.out) hb); have n2_ := Aside0.mk (below_step (by repeat (first | (with_reducible first | exact HB.out | apply below_alloc | apply pw_below_drewN | apply below_drew1 | refine below_set ?_ GE229.out) | exact HB.out)) hb); clear HO_7; clear BK229; clear HB; have HO_7 := n0_; have BK229 := n1_; have HB := n2_; clear n0_ n1_ n2_; (try clear hb); (try clear hb2); (try clear hk); (try clear hi)))
        go_ret
        exact ⟨by first | rfl | (simp [errW_none, errW_some] <;> rfl) | (simp [*, errW_none, errW_some] <;> rfl), by repeat (first | (with_reducible first | exact HB.out | apply below_alloc | apply pw_below_drewN | apply below_drew1 | refine below_set ?_ GE229.out) | exact HB.out)⟩
      · replace c13 := Bool.eq_false_iff.mpr c13
        subst c13
        have H1 : (if 0 ≤ t233 then (if t233 < (t230.length : Int) then (if 0 ≤ (wrap64 (t233 + 1)) then (if (wrap64 (t233 + 1)) ≤ (t230.length : Int) then ((insolvencylaw27_openings.f kj5 a1_0 a1_1 a1_2 a1_3).bind fun t241 => (if 0 ≤ ((rd_T36 t230 t233).f3) then (if ((rd_T36 t230 t233).f3) < (t241.length : Int) then ((insolvencyref25_Balance.f kj5 (t230.take ((wrap64 (t233 + 1)) : Int).toNat) ((rd_T36 t230 t233).f3) (rd t241 ((rd_T36 t230 t233).f3)) 1048576).bind fun t245 => (insolvencylaw27_UndervalueKept.l0 kj5 t230 t233 ((rd_T36 t230 t233).f3) t245 t245 false (wrap64 (t233 + 1)) a1_0 a1_1 a1_2 a1_3)) else (none)) else (none))) else (none)) else (none)) else (none)) else (none)) = some r := by rw [if_neg (show ¬ (false = true) by decide)] at H; exact H
        clear H
        have H := H1
        clear H1
        by_cases c16 : 0 ≤ t233
        · rw [if_pos c16] at H
          have c16b0 : decide (0 ≤ t233) = true := decide_eq_true c16
          clear c16
          by_cases c17 : t233 < (t230.length : Int)
          · rw [if_pos c17] at H
            have c17b0 : decide (t233 < (t230.length : Int)) = true := decide_eq_true c17
            clear c17
            obtain ⟨ji18, hji18⟩ : ∃ j_ : Int, (wrap64 (t233 + 1)) = j_ := ⟨_, rfl⟩
            replace H : (if 0 ≤ (ji18) then (if (ji18) ≤ (t230.length : Int) then ((insolvencylaw27_openings.f kj5 a1_0 a1_1 a1_2 a1_3).bind fun t241 => (if 0 ≤ ((rd_T36 t230 t233).f3) then (if ((rd_T36 t230 t233).f3) < (t241.length : Int) then ((insolvencyref25_Balance.f kj5 (t230.take ((ji18) : Int).toNat) ((rd_T36 t230 t233).f3) (rd t241 ((rd_T36 t230 t233).f3)) 1048576).bind fun t245 => (insolvencylaw27_UndervalueKept.l0 kj5 t230 t233 ((rd_T36 t230 t233).f3) t245 t245 false ji18 a1_0 a1_1 a1_2 a1_3)) else (none)) else (none))) else (none)) else (none)) = some r := by first | (rw [hji18] at H; exact H) | (simp only [hji18] at H ⊢; exact H)
            have hji18w : (IntKind.i64.wrap (t233 + 1)) = ji18 := (i64_w _).trans hji18
            by_cases c19 : 0 ≤ (ji18)
            · rw [if_pos c19] at H
              have c19b0 := eq_true c19
              have c19b1 : decide (0 ≤ (ji18)) = true := decide_eq_true c19
              clear c19
              by_cases c20 : (ji18) ≤ (t230.length : Int)
              · rw [if_pos c20] at H
                have c20b0 := eq_true c20
                have c20b1 : decide ((ji18) ≤ (t230.length : Int)) = true := decide_eq_true c20
                clear c20
                obtain ⟨y237, hy237⟩ : ∃ y_ : List (S36), y_ = (t230.take ((ji18) : Int).toNat) := ⟨_, rfl⟩
                replace H : ((insolvencylaw27_openings.f kj5 a1_0 a1_1 a1_2 a1_3).bind fun t241 => (if 0 ≤ ((rd_T36 t230 t233).f3) then (if ((rd_T36 t230 t233).f3) < (t241.length : Int) then ((insolvencyref25_Balance.f kj5 y237 ((rd_T36 t230 t233).f3) (rd t241 ((rd_T36 t230 t233).f3)) 1048576).bind fun t245 => (insolvencylaw27_UndervalueKept.l0 kj5 t230 t233 ((rd_T36 t230 t233).f3) t245 t245 false ji18 a1_0 a1_1 a1_2 a1_3)) else (none)) else (none))) = some r := by first | (rw [hy237]; with_reducible exact H) | (have H2_ := (Option.bind_some _ _).symm.trans H; rw [hy237]; with_reducible exact H2_) | (have H2_ := (Option.bind_some _ _).symm.trans H; with_reducible exact H2_) | with_reducible exact H | (rw [hy237]; exact H) | exact H
                have Ny237 := Aside0.mk hy237
                clear hy237
                replace H := Option.bind_eq_some_iff.mp H
                obtain ⟨t241, A210, H⟩ := H
                replace H : (if 0 ≤ ((rd_T36 t230 t233).f3) then (if ((rd_T36 t230 t233).f3) < (t241.length : Int) then ((insolvencyref25_Balance.f kj5 y237 ((rd_T36 t230 t233).f3) (rd t241 ((rd_T36 t230 t233).f3)) 1048576).bind fun t245 => (insolvencylaw27_UndervalueKept.l0 kj5 t230 t233 ((rd_T36 t230 t233).f3) t245 t245 false ji18 a1_0 a1_1 a1_2 a1_3)) else (none)) else (none)) = some r := H
                have A21 := Aside0.mk A210
                clear A210
                by_cases c22 : 0 ≤ ((rd_T36 t230 t233).f3)
                · rw [if_pos c22] at H
                  have c22b0 : decide (0 ≤ ((rd_T36 t230 t233).f3)) = true := decide_eq_true c22
                  clear c22
                  by_cases c23 : ((rd_T36 t230 t233).f3) < (t241.length : Int)
                  · rw [if_pos c23] at H
                    have c23b0 : decide (((rd_T36 t230 t233).f3) < (t241.length : Int)) = true := decide_eq_true c23
                    clear c23
                    replace H := Option.bind_eq_some_iff.mp H
                    obtain ⟨t245, A240, H⟩ := H
                    replace H : (insolvencylaw27_UndervalueKept.l0 kj5 t230 t233 ((rd_T36 t230 t233).f3) t245 t245 false ji18 a1_0 a1_1 a1_2 a1_3) = some r := H
                    have A24 := Aside0.mk A240
                    clear A240
                    have H' := Aside0.mk H
                    clear H
                    have p236 : 0 ≤ (t233 : Int) := of_decide_eq_true (by first | (with_reducible assumption) | assumption)
                    have q236 : t233 < (t230.length : Int) := of_decide_eq_true (by first | (with_reducible assumption) | assumption)
                    obtain ⟨ad236, e236, hx236_0, hx236_1, hx236_2, hx236_3, hx236_4, hx236_5⟩ := at_T36 (Kd.R_reads' HO_7.out).2.2 t233 p236 q236
                    cases e236
                    replace p236 := eq_true p236
                    replace q236 := eq_true q236
                    try go_wp2
                    have n0_ := Aside0.mk (Kd.R_drew HO_7.out)
                    have n1_ := Aside0.mk (blk_drew BK229.out)
                    have n2_ := Aside0.mk (below_drew1 HB.out)
                    clear HO_7
                    clear BK229
                    clear HB
                    have HO_7 := n0_
                    have BK229 := n1_
                    have HB := n2_
                    clear n0_ n1_ n2_
                    have q26 : ((ji18) : Int) ≤ ((t230.length : Int) : Int) := of_decide_eq_true (by first | (with_reducible assumption) | assumption)
                    obtain ⟨i026, hi026, _, hsz26, _⟩ := info_parts info36
                    have hroom26 : t230.length ≤ co9 := (Kd.R_reads' HO_7.out).2.1
                    have hC26 : Kd.C k36 _ (some ad236) t230.length t230 := (Kd.R_reads' HO_7.out).2.2
                    have hcut26 := cut_to (P := Try.prog) 24 36 .i64 Try.underlying24 hi026 (some ad236) t230.length co9 (ji18) (of_decide_eq_true (by first | (with_reducible assumption) | assumption)) q26 hroom26
                    have hr26 := Kd.C_take (m := ((ji18) : Int).toNat) hC26 (by omega)
                    have hy26 : y237.length = ((ji18) : Int).toNat := (by rw [Ny237.out, List.length_take]; omega)
                    rw [← Ny237.out] at hr26
                    rw [← hy26] at hcut26
                    have HR240 := Aside0.mk hr26
                    have HC240 := Aside0.mk (show y237.length ≤ co9 from by omega)
                    clear hr26 hC26 hroom26 hi026 hsz26
                    have KY26 := Aside0.mk hy26
                    clear hy26
                    have KL26 := Aside0.mk (show ((ji18) : Int).toNat ≤ t230.length from by omega)
                    replace q26 := eq_true q26
                    refine start_ (n := 12) (S := fun w' => w'.cell? ⟨gb229, 0, none⟩ = some (.int .u8 a1_0) ∧ w'.cell? ⟨gb229, 1, none⟩ = some (.int .u8 a1_1) ∧ w'.cell? ⟨gb229, 2, none⟩ = some (.int .u8 a1_2) ∧ w'.cell? ⟨gb229, 3, none⟩ = some (.int .u8 a1_3)) (ds := []) #[false, false, false, false, false, false, false, false, false, false, false, false] (by kernel_rfl) rfl rfl ⟨(blk_cell BK229.out 0).trans rfl, (blk_cell BK229.out 1).trans rfl, (blk_cell BK229.out 2).trans rfl, (blk_cell BK229.out 3).trans rfl⟩ (fun hHeld => ?_); refine with_tabW insolvencylaw27_UndervalueKept.tab6 insolvencylaw27_UndervalueKept.bits6 (fun HT_ HW_ => ?_)
                    generalize wc.drew = w25 at HO_7 BK229 HB HR240 hHeld ⊢
                    refine pure_ (i := 0) (N := some 40) (v := ?_) (a' := ?_) #[true, false, false, false, false, false, false, false, false, false, false, false] rfl rfl (any_of HT_.out (by kernel_rfl)) (fun _ _ _ h => h) (Or.inl ⟨by rfl, ?_⟩) ?_ ?_
                    rotate_left
                    · intro w'
                      go_simp
                      with_reducible rfl
                    rotate_left
                    · simp only [Act.put, List.setIfInBounds_toArray, List.set_cons_zero, List.set_cons_succ, i64_w, i32_w]
                      rfl
                    refine pure_ (i := 1) (N := some 41) (v := ?_) (a' := ?_) #[true, true, false, false, false, false, false, false, false, false, false, false] rfl rfl (any_of HT_.out (by kernel_rfl)) (fun _ _ _ h => h) (Or.inl ⟨by rfl, ?_⟩) ?_ ?_
                    rotate_left
                    · intro w'
                      go_simp
                      with_reducible rfl
                    rotate_left
                    · simp only [Act.put, List.setIfInBounds_toArray, List.set_cons_zero, List.set_cons_succ, i64_w, i32_w]
                      rfl
                    refine pure_ (i := 2) (N := some 42) (v := ?_) (a' := ?_) #[true, true, true, false, false, false, false, false, false, false, false, false] rfl rfl (any_of HT_.out (by kernel_rfl)) (fun _ _ _ h => h) (Or.inl ⟨by rfl, ?_⟩) ?_ ?_
                    rotate_left
                    · intro w'
                      go_simp
                      with_reducible rfl
                    rotate_left
                    · simp only [Act.put, List.setIfInBounds_toArray, List.set_cons_zero, List.set_cons_succ, i64_w, i32_w]
                      rfl
                    refine pure_ (i := 3) (N := some 43) (v := ?_) (a' := ?_) #[true, true, true, true, false, false, false, false, false, false, false, false] rfl rfl (any_of HT_.out (by kernel_rfl)) (fun _ _ _ h => h) (Or.inl ⟨by rfl, ?_⟩) ?_ ?_
                    rotate_left
                    · intro w'
                      go_simp
                      with_reducible rfl
                    rotate_left
                    · simp only [Act.put, List.setIfInBounds_toArray, List.set_cons_zero, List.set_cons_succ, i64_w, i32_w]
                      rfl
                    refine pure_ (i := 4) (N := some 44) (v := ?_) (a' := ?_) #[true, true, true, true, true, false, false, false, false, false, false, false] rfl rfl (any_of HT_.out (by kernel_rfl)) (fun _ _ _ h => h) (Or.inl ⟨by rfl, ?_⟩) ?_ ?_
                    rotate_left
                    · intro w'
                      go_simp
                      with_reducible rfl
                    rotate_left
                    · simp only [Act.put, List.setIfInBounds_toArray, List.set_cons_zero, List.set_cons_succ, i64_w, i32_w]
                      rfl
                    refine pure_ (i := 7) (N := some 47) (v := ?_) (a' := ?_) #[true, true, true, true, true, false, false, true, false, false, false, false] rfl rfl (any_of HT_.out (by kernel_rfl)) (fun _ _ _ h => h) (Or.inl ⟨by rfl, ?_⟩) ?_ ?_
                    rotate_left
                    · intro w'
                      go_simp
                      with_reducible rfl
                    rotate_left
                    · simp only [Act.put, List.setIfInBounds_toArray, List.set_cons_zero, List.set_cons_succ, i64_w, i32_w]
                      rfl
                    refine take_ (i := 5) (N := some 45) (v := ?_) (a' := ?_) #[true, true, true, true, true, true, false, true, false, false, false, false] rfl rfl (take_ofW HT_.out HW_.out (by kernel_rfl)) (fun _ _ _ h => h) (Or.inl ⟨by rfl, ?_⟩) hHeld ?_ ?_
                    rotate_left
                    · rintro w' ⟨s0, s1, s2, s3⟩
                      go_simp
                      with_reducible rfl
                    rotate_left
                    · simp only [Act.put, List.setIfInBounds_toArray, List.set_cons_zero, List.set_cons_succ, i64_w, i32_w]
                      rfl
                    refine one_ (i := 6) (N := some 46) #[true, true, true, true, true, true, true, true, false, false, false, false] rfl rfl (one_of HT_.out (by kernel_rfl)) (by decide) (fun K hK => ?_)
                    refine goes_ Try.func10 (by kernel_rfl) rfl #[.agg #[.int .u8 a1_0, .int .u8 a1_1, .int .u8 a1_2, .int .u8 a1_3]] (by rfl) rfl rfl (by (try simp only [List.map_toArray, List.map_cons, List.map_nil]); first | done | rfl | (simp only [List.length_drop, List.length_take]; rfl)) ?_
                    with_reducible refine (insolvencylaw27_openings.calls kj5 a1_0 a1_1 a1_2 a1_3 t241 _ A21.out).mono ?_
                    rintro e w27 ⟨v242, rfl, ho0, hb⟩

                    refine ⟨_, rfl, ?_⟩
                    have n0_ := Aside0.mk (Kd.R_below (by (with_reducible repeat (first | apply Kd.R_alloc | apply Kd.R_drewN | apply Kd.R_drew)); exact HO_7.out) hb)
                    have n1_ := Aside0.mk (Kd.R_lower ho0 (below_size (by repeat (first | (with_reducible first | exact HB.out | apply below_alloc | apply pw_below_drewN | apply below_drew1 | refine below_set ?_ GE229.out) | exact HB.out))))
                    have n2_ := Aside0.mk (blk_below (g := gb229) (o := .cells #[.int .u8 a1_0, .int .u8 a1_1, .int .u8 a1_2, .int .u8 a1_3] 23 (0, 0)) (by (with_reducible repeat (first | refine blk_drewN ?_ _ | refine blk_drew ?_ | refine blk_alloc ?_ _)); exact BK229.out) hb)
                    have n3_ := Aside0.mk (Kd.C_below (by repeat (first | (with_reducible exact HR240.out) | (with_reducible refine Kd.C_alloc ?_ _) | (with_reducible refine Kd.C_drewN ?_ _) | (with_reducible refine Kd.C_drew ?_) | exact HR240.out)) hb)
                    have n4_ := Aside0.mk (below_step (by repeat (first | (with_reducible first | exact HB.out | apply below_alloc | apply pw_below_drewN | apply below_drew1 | refine below_set ?_ GE229.out) | exact HB.out)) hb)
                    clear HO_7
                    clear BK229
                    clear HR240
                    clear HB
                    have HO_7 := n0_
                    have HO243 := n1_
                    have BK229 := n2_
                    have HR240 := n3_
                    have HB := n4_
                    clear n0_ n1_ n2_ n3_ n4_
                    (try clear hb)
                    (try clear hb2)
                    (try clear hk)
                    (try clear hi)
                    (try clear ho0)
                    obtain ⟨Ao28, co28, eo28⟩ := Kd.R_slice HO243.out
                    (first | subst eo28 | (injection eo28 with f1_ f2_ f3_; have f4_ := f1_.symm; have f5_ := f3_.symm; clear f1_ f2_ f3_; subst f4_; subst f5_))
                    have p244 : 0 ≤ (((rd_T36 t230 t233).f3) : Int) := of_decide_eq_true (by first | (with_reducible assumption) | assumption)
                    have q244 : ((rd_T36 t230 t233).f3) < (t241.length : Int) := of_decide_eq_true (by first | (with_reducible assumption) | assumption)
                    obtain ⟨ad244, e244, hx244_0⟩ := Kd.at_int (Kd.R_reads' HO243.out).2.2 ((rd_T36 t230 t233).f3) p244 q244
                    cases e244
                    replace p244 := eq_true p244
                    replace q244 := eq_true q244
                    refine hK.out _ _ ⟨(blk_cell BK229.out 0).trans rfl, (blk_cell BK229.out 1).trans rfl, (blk_cell BK229.out 2).trans rfl, (blk_cell BK229.out 3).trans rfl⟩ (fun hHeld => ?_)
                    clear hK K
                    refine norm_ (a' := ?_) ?_ ?_
                    rotate_left
                    · show Act.put _ (some 46) _ = _
                      simp only [Act.put, List.setIfInBounds_toArray, List.set_cons_zero, List.set_cons_succ, i64_w, i32_w]
                      rfl
                    refine pure_ (i := 8) (N := some 48) (v := ?_) (a' := ?_) #[true, true, true, true, true, true, true, true, true, false, false, false] rfl rfl (any_of HT_.out (by kernel_rfl)) (fun _ _ _ h => h) (Or.inl ⟨by rfl, ?_⟩) ?_ ?_
                    rotate_left
                    · intro w'
                      go_simp
                      with_reducible rfl
                    rotate_left
                    · simp only [Act.put, List.setIfInBounds_toArray, List.set_cons_zero, List.set_cons_succ, i64_w, i32_w]
                      rfl
                    refine one_ (i := 9) (N := some 49) #[true, true, true, true, true, true, true, true, true, true, false, false] rfl rfl (one_of HT_.out (by kernel_rfl)) (by decide) (fun K hK => ?_)
                    refine val_ (.int .i64 (rd t241 ((rd_T36 t230 t233).f3))) (by rfl) rfl ?_ ?_
                    · go_simp
                      first | done | rfl | (with_reducible rfl)
                    refine hK.out _ _ ⟨(blk_cell BK229.out 0).trans rfl, (blk_cell BK229.out 1).trans rfl, (blk_cell BK229.out 2).trans rfl, (blk_cell BK229.out 3).trans rfl⟩ (fun hHeld => ?_)
                    clear hK K
                    refine norm_ (a' := ?_) ?_ ?_
                    rotate_left
                    · show Act.put _ (some 49) _ = _
                      simp only [Act.put, List.setIfInBounds_toArray, List.set_cons_zero, List.set_cons_succ, i64_w, i32_w]
                      rfl
                    refine one_ (i := 10) (N := some 50) #[true, true, true, true, true, true, true, true, true, true, true, false] rfl rfl (one_of HT_.out (by kernel_rfl)) (by decide) (fun K hK => ?_)
                    refine goes_ Try.func13 (by kernel_rfl) rfl #[.slice (some ad236) y237.length co9, .int .i64 ((rd_T36 t230 t233).f3), .int .i64 (rd t241 ((rd_T36 t230 t233).f3)), .int .i64 1048576] (by rfl) rfl rfl (by (try simp only [List.map_toArray, List.map_cons, List.map_nil]); first | done | rfl | (simp only [List.length_drop, List.length_take]; rfl)) ?_
                    with_reducible refine (insolvencyref25_Balance.calls kj5 _ _ y237 ((rd_T36 t230 t233).f3) (rd t241 ((rd_T36 t230 t233).f3)) 1048576 t245 _ ?side1 ?side2 A24.out).mono ?_
                    (case side1 => repeat (first | exact (by repeat (first | (with_reducible exact HR240.out) | (with_reducible refine Kd.C_alloc ?_ _) | (with_reducible refine Kd.C_drewN ?_ _) | (with_reducible refine Kd.C_drew ?_) | exact HR240.out)) | (with_reducible refine Kd.C_alloc ?_ _) | (with_reducible refine Kd.C_drewN ?_ _) | (with_reducible refine Kd.C_drew ?_)))
                    (case side2 => exact HC240.out)
                    rintro e w29 ⟨rfl, hb⟩

                    refine ⟨_, rfl, ?_⟩
                    have n0_ := Aside0.mk (Kd.R_below (by (with_reducible repeat (first | apply Kd.R_alloc | apply Kd.R_drewN | apply Kd.R_drew)); exact HO_7.out) hb)
                    have n1_ := Aside0.mk (Kd.R_below (by (with_reducible repeat (first | apply Kd.R_alloc | apply Kd.R_drewN | apply Kd.R_drew)); exact HO243.out) hb)
                    have n2_ := Aside0.mk (blk_below (g := gb229) (o := .cells #[.int .u8 a1_0, .int .u8 a1_1, .int .u8 a1_2, .int .u8 a1_3] 23 (0, 0)) (by (with_reducible repeat (first | refine blk_drewN ?_ _ | refine blk_drew ?_ | refine blk_alloc ?_ _)); exact BK229.out) hb)
                    have n3_ := Aside0.mk (Kd.C_below (by repeat (first | (with_reducible exact HR240.out) | (with_reducible refine Kd.C_alloc ?_ _) | (with_reducible refine Kd.C_drewN ?_ _) | (with_reducible refine Kd.C_drew ?_) | exact HR240.out)) hb)
                    have n4_ := Aside0.mk (below_step (by repeat (first | (with_reducible first | exact HB.out | apply below_alloc | apply pw_below_drewN | apply below_drew1 | refine below_set ?_ GE229.out) | exact HB.out)) hb)
                    clear HO_7
                    clear HO243
                    clear BK229
                    clear HR240
                    clear HB
                    have HO_7 := n0_
                    have HO243 := n1_
                    have BK229 := n2_
                    have HR240 := n3_
                    have HB := n4_
                    clear n0_ n1_ n2_ n3_ n4_
                    (try clear hb)
                    (try clear hb2)
                    (try clear hk)
                    (try clear hi)
                    refine hK.out _ _ ⟨(blk_cell BK229.out 0).trans rfl, (blk_cell BK229.out 1).trans rfl, (blk_cell BK229.out 2).trans rfl, (blk_cell BK229.out 3).trans rfl⟩ (fun hHeld => ?_)
                    clear hK K
                    refine norm_ (a' := ?_) ?_ ?_
                    rotate_left
                    · show Act.put _ (some 50) _ = _
                      simp only [Act.put, List.setIfInBounds_toArray, List.set_cons_zero, List.set_cons_succ, i64_w, i32_w]
                      rfl
                    refine pure_ (i := 11) (N := some 10) (v := ?_) (a' := ?_) #[true, true, true, true, true, true, true, true, true, true, true, true] rfl rfl (any_of HT_.out (by kernel_rfl)) (fun _ _ _ h => h) (Or.inl ⟨by rfl, ?_⟩) ?_ ?_
                    rotate_left
                    · intro w'
                      go_simp
                      with_reducible rfl
                    rotate_left
                    · simp only [Act.put, List.setIfInBounds_toArray, List.set_cons_zero, List.set_cons_succ, i64_w, i32_w]
                      rfl
                    refine done_ (done_of HT_.out (by kernel_rfl)) ?_
                    try go_wp2
                    go_loopg [10, 11, 12, 13] kj5 (fun kq v10 v11 v12 v13 w' => ∃ (x10_2 : Int) (x11_2 : Int) (x12_2 : Bool) (x13_2 : Int), v10 = .int .i64 x10_2 ∧ v11 = .int .i64 x11_2 ∧ v12 = .bool x12_2 ∧ v13 = .int .i64 x13_2 ∧ Aside0 (insolvencylaw27_UndervalueKept.l0 kq t230 t233 ((rd_T36 t230 t233).f3) x10_2 x11_2 x12_2 x13_2 a1_0 a1_1 a1_2 a1_3 = some r) ∧ Aside0 (kq ≤ kj5) ∧ Aside0 (Kd.R k36 36 w' w.heap.size (fun _ => True) (.slice (some ad236) t230.length co9) t230) ∧ Aside0 (w'.heap[gb229]? = some (.cells #[.int .u8 a1_0, .int .u8 a1_1, .int .u8 a1_2, .int .u8 a1_3] 23 (0, 0))) ∧ Aside0 (Kd.C k36 w' (some ad236) y237.length y237) ∧ Aside0 (Below w.heap.size w w'))
                    case atStart => exact ⟨(t245), (t245), (false), (ji18), (by first | rfl | (simp; done) | (simp [*]; done)), (by first | rfl | (simp; done) | (simp [*]; done)), (by first | rfl | (simp; done) | (simp [*]; done)), (by first | rfl | (simp; done) | (simp only [← hji18] <;> (first | rfl | simp)) | (simp [*]; done)), H', ⟨Nat.le_refl _⟩, ⟨by (with_reducible repeat (first | apply Kd.R_alloc | apply Kd.R_drewN | apply Kd.R_drew)); exact HO_7.out⟩, ⟨by (with_reducible repeat (first | refine blk_drewN ?_ _ | refine blk_drew ?_ | refine blk_alloc ?_ _)); exact BK229.out⟩, ⟨by repeat (first | (with_reducible exact HR240.out) | (with_reducible refine Kd.C_alloc ?_ _) | (with_reducible refine Kd.C_drewN ?_ _) | (with_reducible refine Kd.C_drew ?_) | exact HR240.out)⟩, ⟨by repeat (first | (with_reducible first | exact HB.out | apply below_alloc | apply pw_below_drewN | apply below_drew1 | refine below_set ?_ GE229.out) | exact HB.out)⟩⟩
                    case round =>
                      clear H'
                      try clear c1
                      try clear c2
                      try clear p2
                      try clear q2
                      try clear hx2
                      try clear c5
                      try clear p6
                      try clear c7
                      try clear c8
                      try clear c10
                      try clear c10b0
                      try clear c10b1
                      try clear c10b2
                      try clear c11
                      try clear c11b0
                      try clear c12
                      try clear c12b0
                      try clear c13
                      try clear c16
                      try clear c16b0
                      try clear c17
                      try clear c17b0
                      try clear c19
                      try clear c19b0
                      try clear c19b1
                      try clear c20
                      try clear c20b0
                      try clear c20b1
                      try clear c22
                      try clear c22b0
                      try clear c23
                      try clear c23b0
                      try clear p23
                      try clear q23
                      try clear hx23
                      try clear p24
                      try clear q24
                      try clear hx24
                      try clear q26
                      try clear hx234_0
                      try clear hx234_1
                      try clear hx234_2
                      try clear hx234_3
                      try clear hx234_4
                      try clear hx234_5
                      try clear hx236_0
                      try clear hx236_1
                      try clear hx236_2
                      try clear hx236_3
                      try clear hx236_4
                      try clear hx236_5
                      try clear hx244_0
                      try clear p2
                      try clear p234
                      try clear p236
                      try clear p244
                      try clear q2
                      try clear q234
                      try clear q236
                      try clear q244
                      try clear q26
                      obtain ⟨x10_2, x11_2, x12_2, x13_2, rfl, rfl, rfl, rfl, HA, HK2, HO_7, BK229, HR240, HB⟩ := hrel
                      cases gk with
                      | zero => exact absurd HA.out (by simp [insolvencylaw27_UndervalueKept.l0])
                      | succ k2 =>
                        have H := HA.out
                        clear HA
                        simp only [insolvencylaw27_UndervalueKept.l0] at H
                        by_cases c30 : x13_2 < (t230.length : Int)
                        · rw [if_pos c30] at H
                          have c30b0 : decide (x13_2 < (t230.length : Int)) = true := decide_eq_true c30
                          clear c30
                          by_cases c31 : 0 ≤ x13_2
                          · rw [if_pos c31] at H
                            have c31b0 : decide (0 ≤ x13_2) = true := decide_eq_true c31
                            clear c31
                            replace H := Option.bind_eq_some_iff.mp H
                            obtain ⟨t247, A320, H⟩ := H
                            replace H : (if x12_2 = true then (insolvencylaw27_UndervalueKept.l0 k2 t230 t233 ((rd_T36 t230 t233).f3) (mn x10_2 (wrap64 (x11_2 + t247))) (wrap64 (x11_2 + t247)) true (wrap64 (x13_2 + 1)) a1_0 a1_1 a1_2 a1_3) else (insolvencylaw27_UndervalueKept.l0 k2 t230 t233 ((rd_T36 t230 t233).f3) (mn x10_2 (wrap64 (x11_2 + t247))) (wrap64 (x11_2 + t247)) (decide (t247 < 0)) (wrap64 (x13_2 + 1)) a1_0 a1_1 a1_2 a1_3)) = some r := H
                            have A32 := Aside0.mk A320
                            clear A320
                            by_cases c33 : x12_2 = true
                            · subst c33
                              have H1 : (insolvencylaw27_UndervalueKept.l0 k2 t230 t233 ((rd_T36 t230 t233).f3) (mn x10_2 (wrap64 (x11_2 + t247))) (wrap64 (x11_2 + t247)) true (wrap64 (x13_2 + 1)) a1_0 a1_1 a1_2 a1_3) = some r := by rw [if_pos rfl] at H; exact H
                              clear H
                              have H := H1
                              clear H1
                              obtain ⟨ji34, hji34⟩ : ∃ j_ : Int, (mn x10_2 (wrap64 (x11_2 + t247))) = j_ := ⟨_, rfl⟩
                              replace H : (insolvencylaw27_UndervalueKept.l0 k2 t230 t233 ((rd_T36 t230 t233).f3) ji34 (wrap64 (x11_2 + t247)) true (wrap64 (x13_2 + 1)) a1_0 a1_1 a1_2 a1_3) = some r := by first | (rw [hji34] at H; exact H) | (simp only [hji34] at H ⊢; exact H)
                              (try rw [hji34] at A32)
                              have hji34_ : (if (wrap64 (x11_2 + t247)) < x10_2 then (wrap64 (x11_2 + t247)) else x10_2) = ji34 := hji34
                              have H' := Aside0.mk H
                              clear H
                              have p246 : 0 ≤ (x13_2 : Int) := of_decide_eq_true (by first | (with_reducible assumption) | assumption)
                              have q246 : x13_2 < (t230.length : Int) := of_decide_eq_true (by first | (with_reducible assumption) | assumption)
                              obtain ⟨ad246, e246, hx246_0, hx246_1, hx246_2, hx246_3, hx246_4, hx246_5⟩ := at_T36 (Kd.R_reads' HO_7.out).2.2 x13_2 p246 q246
                              obtain rfl : ad236 = ad246 := (by injection e246)
                              replace p246 := eq_true p246
                              replace q246 := eq_true q246
                              go_wp2_with (first | ((with_reducible refine gate_callee (f := 14) rfl ?_); refine goesL_ (some 65) rfl rfl Try.func14 (by kernel_rfl) rfl #[.agg #[.int .i64 ((rd_T36 t230 x13_2).f0), .int .i64 ((rd_T36 t230 x13_2).f1), .int .i64 ((rd_T36 t230 x13_2).f2), .int .i64 ((rd_T36 t230 x13_2).f3), .int .i64 ((rd_T36 t230 x13_2).f4), .int .i64 ((rd_T36 t230 x13_2).f5)], .int .i64 ((rd_T36 t230 t233).f3)] rfl (by (try simp only [List.map_toArray, List.map_cons, List.map_nil]); first | done | rfl | (simp only [List.length_drop, List.length_take]; rfl)) ?_; (with_reducible refine (insolvencyref25_Money.calls k2 ((rd_T36 t230 x13_2).f0) ((rd_T36 t230 x13_2).f1) ((rd_T36 t230 x13_2).f2) ((rd_T36 t230 x13_2).f3) ((rd_T36 t230 x13_2).f4) ((rd_T36 t230 x13_2).f5) ((rd_T36 t230 t233).f3) t247 _ A32.out).mono ?_); rintro e w35 ⟨rfl, hb⟩; refine ⟨_, rfl, ?_⟩; have n0_ := Aside0.mk (Kd.R_below (by (with_reducible repeat (first | apply Kd.R_alloc | apply Kd.R_drewN | apply Kd.R_drew)); exact HO_7.out) hb); have n1_ := Aside0.mk (blk_below (g := gb229) (o := .cells #[.int .u8 a1_0, .int .u8 a1_1, .int .u8 a1_2, .int .u8 a1_3] 23 (0, 0)) (by (with_reducible repeat (first | refine blk_drewN ?_ _ | refine blk_drew ?_ | refine blk_alloc ?_ _)); exact BK229.out) hb); have n2_ := Aside0.mk (Kd.C_below (by repeat (first | (with_reducible exact HR240.out) | (with_reducible refine Kd.C_alloc ?_ _) | (with_reducible refine Kd.C_drewN ?_ _) | (with_reducible refine Kd.C_drew ?_) | exact HR240.out)) hb); have n3_ := Aside0.mk (below_step (by repeat (first | (with_reducible first | exact HB.out | apply below_alloc | apply pw_below_drewN | apply below_drew1 | refine below_set ?_ GE229.out) | exact HB.out)) hb); clear HO_7; clear BK229; clear HR240; clear HB; have HO_7 := n0_; have BK229 := n1_; have HR240 := n2_; have HB := n3_; clear n0_ n1_ n2_ n3_; (try clear hb); (try clear hb2); (try clear hk); (try clear hi)))
                              go_roundg k2
                              case measure => have := HJ5.out; have := HK2.out; omega
                              case rel => exact ⟨(ji34), (wrap64 (x11_2 + t247)), (true), (wrap64 (x13_2 + 1)), (by first | rfl | (simp; done) | (simp only [← hji34] <;> (first | rfl | simp)) | (simp [*]; done)), (by first | rfl | (simp; done) | (simp [*]; done)), (by first | rfl | (simp; done) | (simp [*]; done)), (by first | rfl | (simp; done) | (simp [*]; done)), H', ⟨by have := HJ5.out; have := HK2.out; omega⟩, ⟨by (with_reducible repeat (first | apply Kd.R_alloc | apply Kd.R_drewN | apply Kd.R_drew)); exact HO_7.out⟩, ⟨by (with_reducible repeat (first | refine blk_drewN ?_ _ | refine blk_drew ?_ | refine blk_alloc ?_ _)); exact BK229.out⟩, ⟨by repeat (first | (with_reducible exact HR240.out) | (with_reducible refine Kd.C_alloc ?_ _) | (with_reducible refine Kd.C_drewN ?_ _) | (with_reducible refine Kd.C_drew ?_) | exact HR240.out)⟩, ⟨by repeat (first | (with_reducible first | exact HB.out | apply below_alloc | apply pw_below_drewN | apply below_drew1 | refine below_set ?_ GE229.out) | exact HB.out)⟩⟩
                            · replace c33 := Bool.eq_false_iff.mpr c33
                              subst c33
                              have H1 : (insolvencylaw27_UndervalueKept.l0 k2 t230 t233 ((rd_T36 t230 t233).f3) (mn x10_2 (wrap64 (x11_2 + t247))) (wrap64 (x11_2 + t247)) (decide (t247 < 0)) (wrap64 (x13_2 + 1)) a1_0 a1_1 a1_2 a1_3) = some r := by rw [if_neg (show ¬ (false = true) by decide)] at H; exact H
                              clear H
                              have H := H1
                              clear H1
                              obtain ⟨ji36, hji36⟩ : ∃ j_ : Int, (mn x10_2 (wrap64 (x11_2 + t247))) = j_ := ⟨_, rfl⟩
                              replace H : (insolvencylaw27_UndervalueKept.l0 k2 t230 t233 ((rd_T36 t230 t233).f3) ji36 (wrap64 (x11_2 + t247)) (decide (t247 < 0)) (wrap64 (x13_2 + 1)) a1_0 a1_1 a1_2 a1_3) = some r := by first | (rw [hji36] at H; exact H) | (simp only [hji36] at H ⊢; exact H)
                              (try rw [hji36] at A32)
                              have hji36_ : (if (wrap64 (x11_2 + t247)) < x10_2 then (wrap64 (x11_2 + t247)) else x10_2) = ji36 := hji36
                              have H' := Aside0.mk H
                              clear H
                              have p246 : 0 ≤ (x13_2 : Int) := of_decide_eq_true (by first | (with_reducible assumption) | assumption)
                              have q246 : x13_2 < (t230.length : Int) := of_decide_eq_true (by first | (with_reducible assumption) | assumption)
                              obtain ⟨ad246, e246, hx246_0, hx246_1, hx246_2, hx246_3, hx246_4, hx246_5⟩ := at_T36 (Kd.R_reads' HO_7.out).2.2 x13_2 p246 q246
                              obtain rfl : ad236 = ad246 := (by injection e246)
                              replace p246 := eq_true p246
                              replace q246 := eq_true q246
                              go_wp2_with (first | ((with_reducible refine gate_callee (f := 14) rfl ?_); refine goesL_ (some 65) rfl rfl Try.func14 (by kernel_rfl) rfl #[.agg #[.int .i64 ((rd_T36 t230 x13_2).f0), .int .i64 ((rd_T36 t230 x13_2).f1), .int .i64 ((rd_T36 t230 x13_2).f2), .int .i64 ((rd_T36 t230 x13_2).f3), .int .i64 ((rd_T36 t230 x13_2).f4), .int .i64 ((rd_T36 t230 x13_2).f5)], .int .i64 ((rd_T36 t230 t233).f3)] rfl (by (try simp only [List.map_toArray, List.map_cons, List.map_nil]); first | done | rfl | (simp only [List.length_drop, List.length_take]; rfl)) ?_; (with_reducible refine (insolvencyref25_Money.calls k2 ((rd_T36 t230 x13_2).f0) ((rd_T36 t230 x13_2).f1) ((rd_T36 t230 x13_2).f2) ((rd_T36 t230 x13_2).f3) ((rd_T36 t230 x13_2).f4) ((rd_T36 t230 x13_2).f5) ((rd_T36 t230 t233).f3) t247 _ A32.out).mono ?_); rintro e w37 ⟨rfl, hb⟩; refine ⟨_, rfl, ?_⟩; have n0_ := Aside0.mk (Kd.R_below (by (with_reducible repeat (first | apply Kd.R_alloc | apply Kd.R_drewN | apply Kd.R_drew)); exact HO_7.out) hb); have n1_ := Aside0.mk (blk_below (g := gb229) (o := .cells #[.int .u8 a1_0, .int .u8 a1_1, .int .u8 a1_2, .int .u8 a1_3] 23 (0, 0)) (by (with_reducible repeat (first | refine blk_drewN ?_ _ | refine blk_drew ?_ | refine blk_alloc ?_ _)); exact BK229.out) hb); have n2_ := Aside0.mk (Kd.C_below (by repeat (first | (with_reducible exact HR240.out) | (with_reducible refine Kd.C_alloc ?_ _) | (with_reducible refine Kd.C_drewN ?_ _) | (with_reducible refine Kd.C_drew ?_) | exact HR240.out)) hb); have n3_ := Aside0.mk (below_step (by repeat (first | (with_reducible first | exact HB.out | apply below_alloc | apply pw_below_drewN | apply below_drew1 | refine below_set ?_ GE229.out) | exact HB.out)) hb); clear HO_7; clear BK229; clear HR240; clear HB; have HO_7 := n0_; have BK229 := n1_; have HR240 := n2_; have HB := n3_; clear n0_ n1_ n2_ n3_; (try clear hb); (try clear hb2); (try clear hk); (try clear hi)))
                              go_roundg k2
                              case measure => have := HJ5.out; have := HK2.out; omega
                              case rel => exact ⟨(ji36), (wrap64 (x11_2 + t247)), (decide (t247 < 0)), (wrap64 (x13_2 + 1)), (by first | rfl | (simp; done) | (simp only [← hji36] <;> (first | rfl | simp)) | (simp [*]; done)), (by first | rfl | (simp; done) | (simp [*]; done)), (by first | rfl | (simp; done) | (simp [*]; done)), (by first | rfl | (simp; done) | (simp [*]; done)), H', ⟨by have := HJ5.out; have := HK2.out; omega⟩, ⟨by (with_reducible repeat (first | apply Kd.R_alloc | apply Kd.R_drewN | apply Kd.R_drew)); exact HO_7.out⟩, ⟨by (with_reducible repeat (first | refine blk_drewN ?_ _ | refine blk_drew ?_ | refine blk_alloc ?_ _)); exact BK229.out⟩, ⟨by repeat (first | (with_reducible exact HR240.out) | (with_reducible refine Kd.C_alloc ?_ _) | (with_reducible refine Kd.C_drewN ?_ _) | (with_reducible refine Kd.C_drew ?_) | exact HR240.out)⟩, ⟨by repeat (first | (with_reducible first | exact HB.out | apply below_alloc | apply pw_below_drewN | apply below_drew1 | refine below_set ?_ GE229.out) | exact HB.out)⟩⟩
                          · rw [if_neg c31] at H
                            exact absurd H (by simp)
                        · rw [if_neg c30] at H
                          have c30b0 : decide (x13_2 < (t230.length : Int)) = false := decide_eq_false c30
                          clear c30
                          replace H := Option.bind_eq_some_iff.mp H
                          obtain ⟨t248, A380, H⟩ := H
                          replace H : ((undervalue_Trace.f k2 t230 t248 t233).bind fun bt251 => (if bt251.2.2 = 0 then (insolvencylaw27_UndervalueKept.j2 k2 t230 t233 ((rd_T36 t230 t233).f3) x10_2 x12_2 bt251.1 ((bt251.1.length : Int) != 4)) else (insolvencylaw27_UndervalueKept.j2 k2 t230 t233 ((rd_T36 t230 t233).f3) x10_2 x12_2 bt251.1 true))) = some r := H
                          have A38 := Aside0.mk A380
                          clear A380
                          replace H := Option.bind_eq_some_iff.mp H
                          obtain ⟨⟨t251, t252, t253⟩, A390, H⟩ := H
                          replace H : (if t253 = 0 then (insolvencylaw27_UndervalueKept.j2 k2 t230 t233 ((rd_T36 t230 t233).f3) x10_2 x12_2 t251 ((t251.length : Int) != 4)) else (insolvencylaw27_UndervalueKept.j2 k2 t230 t233 ((rd_T36 t230 t233).f3) x10_2 x12_2 t251 true)) = some r := H
                          have A39 := Aside0.mk A390
                          clear A390
                          have HC40 := Aside0.mk H
                          clear H
                          have hcz41_0 : wr.cell? ⟨gb229, 0, none⟩ = some (.int .u8 a1_0) := (blk_cell BK229.out 0).trans rfl
                          have hcz41_1 : wr.cell? ⟨gb229, 1, none⟩ = some (.int .u8 a1_1) := (blk_cell BK229.out 1).trans rfl
                          have hcz41_2 : wr.cell? ⟨gb229, 2, none⟩ = some (.int .u8 a1_2) := (blk_cell BK229.out 2).trans rfl
                          have hcz41_3 : wr.cell? ⟨gb229, 3, none⟩ = some (.int .u8 a1_3) := (blk_cell BK229.out 3).trans rfl
                          have hfz41_0 := blk_frozen BK229.out 0
                          have hfz41_1 := blk_frozen BK229.out 1
                          have hfz41_2 := blk_frozen BK229.out 2
                          have hfz41_3 := blk_frozen BK229.out 3
                          go_upto_region 17 with (first | ((with_reducible refine gate_callee (f := 10) rfl ?_); refine goesL_ (some 80) rfl rfl Try.func10 (by kernel_rfl) rfl #[.agg #[.int .u8 a1_0, .int .u8 a1_1, .int .u8 a1_2, .int .u8 a1_3]] rfl (by (try simp only [List.map_toArray, List.map_cons, List.map_nil]); first | done | rfl | (simp only [List.length_drop, List.length_take]; rfl)) ?_; (with_reducible refine (insolvencylaw27_openings.calls k2 a1_0 a1_1 a1_2 a1_3 t248 _ A38.out).mono ?_); rintro e w42 ⟨v249, rfl, ho0, hb⟩; refine ⟨_, rfl, ?_⟩; have n0_ := Aside0.mk (Kd.R_below (by (with_reducible repeat (first | apply Kd.R_alloc | apply Kd.R_drewN | apply Kd.R_drew)); exact HO_7.out) hb); have n1_ := Aside0.mk (Kd.R_lower ho0 (below_size (by repeat (first | (with_reducible first | exact HB.out | apply below_alloc | apply pw_below_drewN | apply below_drew1 | refine below_set ?_ GE229.out) | exact HB.out)))); have n2_ := Aside0.mk (blk_below (g := gb229) (o := .cells #[.int .u8 a1_0, .int .u8 a1_1, .int .u8 a1_2, .int .u8 a1_3] 23 (0, 0)) (by (with_reducible repeat (first | refine blk_drewN ?_ _ | refine blk_drew ?_ | refine blk_alloc ?_ _)); exact BK229.out) hb); have n3_ := Aside0.mk (Kd.C_below (by repeat (first | (with_reducible exact HR240.out) | (with_reducible refine Kd.C_alloc ?_ _) | (with_reducible refine Kd.C_drewN ?_ _) | (with_reducible refine Kd.C_drew ?_) | exact HR240.out)) hb); have n4_ := Aside0.mk (below_step (by repeat (first | (with_reducible first | exact HB.out | apply below_alloc | apply pw_below_drewN | apply below_drew1 | refine below_set ?_ GE229.out) | exact HB.out)) hb); clear HO_7; clear BK229; clear HR240; clear HB; have HO_7 := n0_; have HO250 := n1_; have BK229 := n2_; have HR240 := n3_; have HB := n4_; clear n0_ n1_ n2_ n3_ n4_; (try clear hb); (try clear hb2); (try clear hk); (try clear hi); (try clear ho0); obtain ⟨Ao43, co43, eo43⟩ := Kd.R_slice HO250.out; subst eo43) | ((with_reducible refine gate_callee (f := 12) rfl ?_); refine goesL_ (some 82) rfl rfl Try.func12 (by kernel_rfl) rfl #[.slice (some ad236) t230.length co9, .slice Ao43 t248.length co43, .int .i64 t233] rfl (by (try simp only [List.map_toArray, List.map_cons, List.map_nil]); first | done | rfl | (simp only [List.length_drop, List.length_take]; rfl)) ?_; (with_reducible refine (undervalue_Trace.calls k2 _ _ t230 _ _ t248 t233 t251 t252 t253 _ ?side1 ?side2 ?side3 ?side4 A39.out).mono ?_); (case side1 => repeat (first | exact (Kd.R_reads' HO_7.out).2.2 | (with_reducible refine Kd.C_alloc ?_ _) | (with_reducible refine Kd.C_drewN ?_ _) | (with_reducible refine Kd.C_drew ?_))); (case side2 => exact (Kd.R_reads' HO_7.out).2.1); (case side3 => repeat (first | exact (Kd.R_reads' HO250.out).2.2 | (with_reducible refine Kd.C_alloc ?_ _) | (with_reducible refine Kd.C_drewN ?_ _) | (with_reducible refine Kd.C_drew ?_))); (case side4 => exact (Kd.R_reads' HO250.out).2.1); rintro e w44 ⟨v254, rfl, ho0, hb⟩; refine ⟨_, rfl, ?_⟩; have n0_ := Aside0.mk (Kd.R_below (by (with_reducible repeat (first | apply Kd.R_alloc | apply Kd.R_drewN | apply Kd.R_drew)); exact HO_7.out) hb); have n1_ := Aside0.mk (Kd.R_elder' (by (with_reducible repeat (first | apply Kd.R_alloc | apply Kd.R_drewN | apply Kd.R_drew)); exact HO250.out) (Kd.R_base ho0) hb); have n2_ := Aside0.mk (Kd.R_lower (Kd.R_new' ho0 (Kd.R_lt (by (with_reducible repeat (first | apply Kd.R_alloc | apply Kd.R_drewN | apply Kd.R_drew)); exact HO250.out))) (below_size (by repeat (first | (with_reducible first | exact HB.out | apply below_alloc | apply pw_below_drewN | apply below_drew1 | refine below_set ?_ GE229.out) | exact HB.out)))); have n3_ := Aside0.mk (blk_below (g := gb229) (o := .cells #[.int .u8 a1_0, .int .u8 a1_1, .int .u8 a1_2, .int .u8 a1_3] 23 (0, 0)) (by (with_reducible repeat (first | refine blk_drewN ?_ _ | refine blk_drew ?_ | refine blk_alloc ?_ _)); exact BK229.out) hb); have n4_ := Aside0.mk (Kd.C_below (by repeat (first | (with_reducible exact HR240.out) | (with_reducible refine Kd.C_alloc ?_ _) | (with_reducible refine Kd.C_drewN ?_ _) | (with_reducible refine Kd.C_drew ?_) | exact HR240.out)) hb); have n5_ := Aside0.mk (below_step (by repeat (first | (with_reducible first | exact HB.out | apply below_alloc | apply pw_below_drewN | apply below_drew1 | refine below_set ?_ GE229.out) | exact HB.out)) hb); clear HO_7; clear HO250; clear BK229; clear HR240; clear HB; have HO_7 := n0_; have HO250 := n1_; have HO255 := n2_; have BK229 := n3_; have HR240 := n4_; have HB := n5_; clear n0_ n1_ n2_ n3_ n4_ n5_; (try clear hb); (try clear hb2); (try clear hk); (try clear hi); (try clear ho0)))
                          (try simp only [Act.put, List.setIfInBounds_toArray, List.set_cons_zero, List.set_cons_succ])
                          go_cut [92] (fun v92 wc => ∃ (kq : Nat) (x92_39 : Bool), v92 = .bool x92_39 ∧ Aside0 (insolvencylaw27_UndervalueKept.j2 kq t230 t233 ((rd_T36 t230 t233).f3) x10_2 x12_2 t251 x92_39 = some r) ∧ Aside0 (kq ≤ k2) ∧ Aside0 (Kd.R k36 36 wc w.heap.size (fun _ => True) (.slice (some ad236) t230.length co9) t230) ∧ Aside0 (Kd.R (Kd.int .i64) 2 wc w.heap.size (fun _ => True) v254 t251) ∧ Aside0 (wc.heap[gb229]? = some (.cells #[.int .u8 a1_0, .int .u8 a1_1, .int .u8 a1_2, .int .u8 a1_3] 23 (0, 0))) ∧ Aside0 (Kd.C k36 wc (some ad236) y237.length y237) ∧ Aside0 (Below w.heap.size w wc))
                          case first =>
                            have H := HC40.out
                            clear HC40
                            by_cases c45 : t253 = 0
                            · rw [if_pos c45] at H
                              have c45b0 : (t253 == 0) = true := beq_iff_eq.mpr c45
                              have c45b1 : (t253 != 0) = false := bne_eq_false_iff_eq.mpr c45
                              clear c45
                              (first | rw [c45b0] | (simp only [i64_w, i32_w]; rw [c45b0]) | rw [c45b1] | skip)
                              have H' := Aside0.mk H
                              clear H
                              obtain ⟨Ao46, co46, eo46⟩ := Kd.R_slice HO255.out
                              subst eo46
                              go_wp2
                              go_meet
                              case rel => exact ⟨_, (((t251.length : Int) != 4)), (by first | rfl | (simp; done) | (simp [*]; done)), H', ⟨by have := HJ5.out; have := HK2.out; first | omega | exact Nat.le_refl _⟩, ⟨by (with_reducible repeat (first | apply Kd.R_alloc | apply Kd.R_drewN | apply Kd.R_drew)); exact HO_7.out⟩, ⟨by (with_reducible repeat (first | apply Kd.R_alloc | apply Kd.R_drewN | apply Kd.R_drew)); exact Kd.R_mono HO255.out (fun _ hk => trivial)⟩, ⟨by (with_reducible repeat (first | refine blk_drewN ?_ _ | refine blk_drew ?_ | refine blk_alloc ?_ _)); exact BK229.out⟩, ⟨by repeat (first | (with_reducible exact HR240.out) | (with_reducible refine Kd.C_alloc ?_ _) | (with_reducible refine Kd.C_drewN ?_ _) | (with_reducible refine Kd.C_drew ?_) | exact HR240.out)⟩, ⟨by repeat (first | (with_reducible first | exact HB.out | apply below_alloc | apply pw_below_drewN | apply below_drew1 | refine below_set ?_ GE229.out) | exact HB.out)⟩⟩
                            · rw [if_neg c45] at H
                              have c45b0 : (t253 == 0) = false := beq_eq_false_iff_ne.mpr c45
                              have c45b1 : (t253 != 0) = true := bne_iff_ne.mpr c45
                              (first | rw [c45b0] | (simp only [i64_w, i32_w]; rw [c45b0]) | rw [c45b1] | skip)
                              have H' := Aside0.mk H
                              clear H
                              go_wp2
                              go_meet
                              case rel => exact ⟨_, (true), (by first | rfl | (simp; done) | (simp [*]; done)), H', ⟨by have := HJ5.out; have := HK2.out; first | omega | exact Nat.le_refl _⟩, ⟨by (with_reducible repeat (first | apply Kd.R_alloc | apply Kd.R_drewN | apply Kd.R_drew)); exact HO_7.out⟩, ⟨by (with_reducible repeat (first | apply Kd.R_alloc | apply Kd.R_drewN | apply Kd.R_drew)); exact Kd.R_mono HO255.out (fun _ hk => trivial)⟩, ⟨by (with_reducible repeat (first | refine blk_drewN ?_ _ | refine blk_drew ?_ | refine blk_alloc ?_ _)); exact BK229.out⟩, ⟨by repeat (first | (with_reducible exact HR240.out) | (with_reducible refine Kd.C_alloc ?_ _) | (with_reducible refine Kd.C_drewN ?_ _) | (with_reducible refine Kd.C_drew ?_) | exact HR240.out)⟩, ⟨by repeat (first | (with_reducible first | exact HB.out | apply below_alloc | apply pw_below_drewN | apply below_drew1 | refine below_set ?_ GE229.out) | exact HB.out)⟩⟩
                          case rest =>
                            clear HC40
                            try clear c1
                            try clear c2
                            try clear p2
                            try clear q2
                            try clear hx2
                            try clear c3
                            try clear c4
                            try clear c5
                            try clear p6
                            try clear c7
                            try clear c8
                            try clear c10
                            try clear c10b0
                            try clear c10b1
                            try clear c10b2
                            try clear c11
                            try clear c11b0
                            try clear c12
                            try clear c12b0
                            try clear c13
                            try clear c14
                            try clear c16
                            try clear c16b0
                            try clear c17
                            try clear c17b0
                            try clear c19
                            try clear c19b0
                            try clear c19b1
                            try clear c20
                            try clear c20b0
                            try clear c20b1
                            try clear c22
                            try clear c22b0
                            try clear c23
                            try clear c23b0
                            try clear p23
                            try clear q23
                            try clear hx23
                            try clear p24
                            try clear q24
                            try clear hx24
                            try clear q26
                            try clear c30
                            try clear c30b0
                            try clear c31
                            try clear c31b0
                            try clear c33
                            try clear c45
                            try clear c45b0
                            try clear c45b1
                            try clear hcz41_0
                            try clear hcz41_1
                            try clear hcz41_2
                            try clear hcz41_3
                            try clear hfz41_0
                            try clear hfz41_1
                            try clear hfz41_2
                            try clear hfz41_3
                            try clear hx234_0
                            try clear hx234_1
                            try clear hx234_2
                            try clear hx234_3
                            try clear hx234_4
                            try clear hx234_5
                            try clear hx236_0
                            try clear hx236_1
                            try clear hx236_2
                            try clear hx236_3
                            try clear hx236_4
                            try clear hx236_5
                            try clear hx244_0
                            try clear hx246_0
                            try clear hx246_1
                            try clear hx246_2
                            try clear hx246_3
                            try clear hx246_4
                            try clear hx246_5
                            try clear p2
                            try clear p23
                            try clear p234
                            try clear p236
                            try clear p24
                            try clear p244
                            try clear p246
                            try clear p6
                            try clear q2
                            try clear q23
                            try clear q234
                            try clear q236
                            try clear q24
                            try clear q244
                            try clear q246
                            try clear q26
                            obtain ⟨kq, x92_39, rfl, HA, HJ39, HO_7, HO_15, BK229, HR240, HB⟩ := hcut
                            cases kq with
                            | zero => exact absurd HA.out (by simp [insolvencylaw27_UndervalueKept.j2])
                            | succ kj39 =>
                              have H := HA.out
                              clear HA
                              simp only [insolvencylaw27_UndervalueKept.j2] at H
                              by_cases c47 : x92_39 = true
                              · subst c47
                                have H1 : (some false) = some r := by rw [if_pos rfl] at H; exact H
                                clear H
                                have H := H1
                                clear H1
                                obtain rfl := Option.some.inj H
                                go_wp2
                                go_ret
                                exact ⟨by first | rfl | (simp [errW_none, errW_some] <;> rfl) | (simp only [← hji18]; first | rfl | (simp [errW_none, errW_some] <;> rfl)) | (simp [*, errW_none, errW_some] <;> rfl), by repeat (first | (with_reducible first | exact HB.out | apply below_alloc | apply pw_below_drewN | apply below_drew1 | refine below_set ?_ GE229.out) | exact HB.out)⟩
                              · replace c47 := Bool.eq_false_iff.mpr c47
                                subst c47
                                have H1 : (if x12_2 = true then ((insolvencylaw27_awake.f kj39).bind fun t256 => (some t256)) else ((insolvencylaw27_awake.f kj39).bind fun t257 => (if t257 = true then (if 0 ≤ ((rd_T36 t230 t233).f3) then (if ((rd_T36 t230 t233).f3) < (t251.length : Int) then (if 0 ≤ t233 then (if t233 < (t230.length : Int) then (some ((rd t251 ((rd_T36 t230 t233).f3)) == (mn ((rd_T36 t230 t233).f4) (mx x10_2 0)))) else (none)) else (none)) else (none)) else (none)) else (some false)))) = some r := by rw [if_neg (show ¬ (false = true) by decide)] at H; exact H
                                clear H
                                have H := H1
                                clear H1
                                by_cases c48 : x12_2 = true
                                · subst c48
                                  have H1 : ((insolvencylaw27_awake.f kj39).bind fun t256 => (some t256)) = some r := by rw [if_pos rfl] at H; exact H
                                  clear H
                                  have H := H1
                                  clear H1
                                  replace H := Option.bind_eq_some_iff.mp H
                                  obtain ⟨t256, A490, H⟩ := H
                                  replace H : (some t256) = some r := H
                                  have A49 := Aside0.mk A490
                                  clear A490
                                  obtain rfl := Option.some.inj H
                                  go_wp2_with (first | ((with_reducible refine gate_callee (f := 7) rfl ?_); refine goesL_ (some 94) rfl rfl Try.func7 (by kernel_rfl) rfl #[] rfl (by (try simp only [List.map_toArray, List.map_cons, List.map_nil]); first | done | rfl | (simp only [List.length_drop, List.length_take]; rfl)) ?_; (with_reducible refine (insolvencylaw27_awake.calls kj39  t256 _ A49.out).mono ?_); rintro e w50 ⟨rfl, hb⟩; refine ⟨_, rfl, ?_⟩; have n0_ := Aside0.mk (Kd.R_below (by (with_reducible repeat (first | apply Kd.R_alloc | apply Kd.R_drewN | apply Kd.R_drew)); exact HO_7.out) hb); have n1_ := Aside0.mk (Kd.R_below (by (with_reducible repeat (first | apply Kd.R_alloc | apply Kd.R_drewN | apply Kd.R_drew)); exact HO_15.out) hb); have n2_ := Aside0.mk (blk_below (g := gb229) (o := .cells #[.int .u8 a1_0, .int .u8 a1_1, .int .u8 a1_2, .int .u8 a1_3] 23 (0, 0)) (by (with_reducible repeat (first | refine blk_drewN ?_ _ | refine blk_drew ?_ | refine blk_alloc ?_ _)); exact BK229.out) hb); have n3_ := Aside0.mk (Kd.C_below (by repeat (first | (with_reducible exact HR240.out) | (with_reducible refine Kd.C_alloc ?_ _) | (with_reducible refine Kd.C_drewN ?_ _) | (with_reducible refine Kd.C_drew ?_) | exact HR240.out)) hb); have n4_ := Aside0.mk (below_step (by repeat (first | (with_reducible first | exact HB.out | apply below_alloc | apply pw_below_drewN | apply below_drew1 | refine below_set ?_ GE229.out) | exact HB.out)) hb); clear HO_7; clear HO_15; clear BK229; clear HR240; clear HB; have HO_7 := n0_; have HO_15 := n1_; have BK229 := n2_; have HR240 := n3_; have HB := n4_; clear n0_ n1_ n2_ n3_ n4_; (try clear hb); (try clear hb2); (try clear hk); (try clear hi)))
                                  go_ret
                                  exact ⟨by first | rfl | (simp [errW_none, errW_some] <;> rfl) | (simp only [← hji18]; first | rfl | (simp [errW_none, errW_some] <;> rfl)) | (simp [*, errW_none, errW_some] <;> rfl), by repeat (first | (with_reducible first | exact HB.out | apply below_alloc | apply pw_below_drewN | apply below_drew1 | refine below_set ?_ GE229.out) | exact HB.out)⟩
                                · replace c48 := Bool.eq_false_iff.mpr c48
                                  subst c48
                                  have H1 : ((insolvencylaw27_awake.f kj39).bind fun t257 => (if t257 = true then (if 0 ≤ ((rd_T36 t230 t233).f3) then (if ((rd_T36 t230 t233).f3) < (t251.length : Int) then (if 0 ≤ t233 then (if t233 < (t230.length : Int) then (some ((rd t251 ((rd_T36 t230 t233).f3)) == (mn ((rd_T36 t230 t233).f4) (mx x10_2 0)))) else (none)) else (none)) else (none)) else (none)) else (some false))) = some r := by rw [if_neg (show ¬ (false = true) by decide)] at H; exact H
                                  clear H
                                  have H := H1
                                  clear H1
                                  replace H := Option.bind_eq_some_iff.mp H
                                  obtain ⟨t257, A510, H⟩ := H
                                  replace H : (if t257 = true then (if 0 ≤ ((rd_T36 t230 t233).f3) then (if ((rd_T36 t230 t233).f3) < (t251.length : Int) then (if 0 ≤ t233 then (if t233 < (t230.length : Int) then (some ((rd t251 ((rd_T36 t230 t233).f3)) == (mn ((rd_T36 t230 t233).f4) (mx x10_2 0)))) else (none)) else (none)) else (none)) else (none)) else (some false)) = some r := H
                                  have A51 := Aside0.mk A510
                                  clear A510
                                  by_cases c52 : t257 = true
                                  · subst c52
                                    have H1 : (if 0 ≤ ((rd_T36 t230 t233).f3) then (if ((rd_T36 t230 t233).f3) < (t251.length : Int) then (if 0 ≤ t233 then (if t233 < (t230.length : Int) then (some ((rd t251 ((rd_T36 t230 t233).f3)) == (mn ((rd_T36 t230 t233).f4) (mx x10_2 0)))) else (none)) else (none)) else (none)) else (none)) = some r := by rw [if_pos rfl] at H; exact H
                                    clear H
                                    have H := H1
                                    clear H1
                                    by_cases c53 : 0 ≤ ((rd_T36 t230 t233).f3)
                                    · rw [if_pos c53] at H
                                      have c53b0 : decide (0 ≤ ((rd_T36 t230 t233).f3)) = true := decide_eq_true c53
                                      clear c53
                                      by_cases c54 : ((rd_T36 t230 t233).f3) < (t251.length : Int)
                                      · rw [if_pos c54] at H
                                        have c54b0 : decide (((rd_T36 t230 t233).f3) < (t251.length : Int)) = true := decide_eq_true c54
                                        clear c54
                                        by_cases c55 : 0 ≤ t233
                                        · rw [if_pos c55] at H
                                          have c55b0 : decide (0 ≤ t233) = true := decide_eq_true c55
                                          clear c55
                                          by_cases c56 : t233 < (t230.length : Int)
                                          · rw [if_pos c56] at H
                                            have c56b0 : decide (t233 < (t230.length : Int)) = true := decide_eq_true c56
                                            clear c56
                                            obtain ⟨ji57, hji57⟩ : ∃ j_ : Int, (mx x10_2 0) = j_ := ⟨_, rfl⟩
                                            replace H : (some ((rd t251 ((rd_T36 t230 t233).f3)) == (mn ((rd_T36 t230 t233).f4) (ji57)))) = some r := by first | (rw [hji57] at H; exact H) | (simp only [hji57] at H ⊢; exact H)
                                            (try rw [hji57] at A51)
                                            have hji57_ : (if x10_2 < 0 then 0 else x10_2) = ji57 := hji57
                                            obtain ⟨ji58, hji58⟩ : ∃ j_ : Int, (mn ((rd_T36 t230 t233).f4) (ji57)) = j_ := ⟨_, rfl⟩
                                            replace H : (some ((rd t251 ((rd_T36 t230 t233).f3)) == (ji58))) = some r := by first | (rw [hji58] at H; exact H) | (simp only [hji58] at H ⊢; exact H)
                                            (try rw [hji58] at A51)
                                            have hji58_ : (if (ji57) < ((rd_T36 t230 t233).f4) then (ji57) else ((rd_T36 t230 t233).f4)) = ji58 := hji58
                                            obtain rfl := Option.some.inj H
                                            try go_wp2
                                            have n0_ := Aside0.mk (Kd.R_drew HO_7.out)
                                            have n1_ := Aside0.mk (Kd.R_drew HO_15.out)
                                            have n2_ := Aside0.mk (blk_drew BK229.out)
                                            have n3_ := Aside0.mk (Kd.C_drew HR240.out)
                                            have n4_ := Aside0.mk (below_drew1 HB.out)
                                            clear HO_7
                                            clear HO_15
                                            clear BK229
                                            clear HR240
                                            clear HB
                                            have HO_7 := n0_
                                            have HO_15 := n1_
                                            have BK229 := n2_
                                            have HR240 := n3_
                                            have HB := n4_
                                            clear n0_ n1_ n2_ n3_ n4_
                                            obtain ⟨Ao254, co254, eo254⟩ := Kd.R_slice HO_15.out
                                            subst eo254
                                            have p258 : 0 ≤ (((rd_T36 t230 t233).f3) : Int) := of_decide_eq_true (by first | (with_reducible assumption) | assumption)
                                            have q258 : ((rd_T36 t230 t233).f3) < (t251.length : Int) := of_decide_eq_true (by first | (with_reducible assumption) | assumption)
                                            obtain ⟨ad258, e258, hx258_0⟩ := Kd.at_int (Kd.R_reads' HO_15.out).2.2 ((rd_T36 t230 t233).f3) p258 q258
                                            cases e258
                                            replace p258 := eq_true p258
                                            replace q258 := eq_true q258
                                            have p259 : 0 ≤ (t233 : Int) := of_decide_eq_true (by first | (with_reducible assumption) | assumption)
                                            have q259 : t233 < (t230.length : Int) := of_decide_eq_true (by first | (with_reducible assumption) | assumption)
                                            obtain ⟨ad259, e259, hx259_0, hx259_1, hx259_2, hx259_3, hx259_4, hx259_5⟩ := at_T36 (Kd.R_reads' HO_7.out).2.2 t233 p259 q259
                                            obtain rfl : ad236 = ad259 := (by injection e259)
                                            replace p259 := eq_true p259
                                            replace q259 := eq_true q259
                                            refine start_ (n := 17) (S := fun w' => w'.cell? (ad258.add (((rd_T36 t230 t233).f3)).toNat) = some (.int .i64 (rd t251 ((rd_T36 t230 t233).f3))) ∧ w'.cell? (ad236.add ((t233).toNat * 6)) = some (.int .i64 ((rd_T36 t230 t233).f0)) ∧ w'.cell? ⟨(ad236.add ((t233).toNat * 6)).block, (ad236.add ((t233).toNat * 6)).off + 1, none⟩ = some (.int .i64 ((rd_T36 t230 t233).f1)) ∧ w'.cell? ⟨(ad236.add ((t233).toNat * 6)).block, (ad236.add ((t233).toNat * 6)).off + 2, none⟩ = some (.int .i64 ((rd_T36 t230 t233).f2)) ∧ w'.cell? ⟨(ad236.add ((t233).toNat * 6)).block, (ad236.add ((t233).toNat * 6)).off + 3, none⟩ = some (.int .i64 ((rd_T36 t230 t233).f3)) ∧ w'.cell? ⟨(ad236.add ((t233).toNat * 6)).block, (ad236.add ((t233).toNat * 6)).off + 4, none⟩ = some (.int .i64 ((rd_T36 t230 t233).f4)) ∧ w'.cell? ⟨(ad236.add ((t233).toNat * 6)).block, (ad236.add ((t233).toNat * 6)).off + 5, none⟩ = some (.int .i64 ((rd_T36 t230 t233).f5))) (ds := []) #[false, false, false, false, false, false, false, false, false, false, false, false, false, false, false, false, false] (by kernel_rfl) rfl rfl ⟨hx258_0, hx259_0, hx259_1, hx259_2, hx259_3, hx259_4, hx259_5⟩ (fun hHeld => ?_); refine with_tabW insolvencylaw27_UndervalueKept.tab21 insolvencylaw27_UndervalueKept.bits21 (fun HT_ HW_ => ?_)
                                            generalize wc.drew = w59 at HO_7 HO_15 BK229 HR240 HB hx258_0 hx259_0 hx259_1 hx259_2 hx259_3 hx259_4 hx259_5 hHeld ⊢
                                            refine one_ (i := 0) (N := some 95) #[true, false, false, false, false, false, false, false, false, false, false, false, false, false, false, false, false] rfl rfl (one_of HT_.out (by kernel_rfl)) (by decide) (fun K hK => ?_)
                                            refine goes_ Try.func7 (by kernel_rfl) rfl #[] (by rfl) rfl rfl (by (try simp only [List.map_toArray, List.map_cons, List.map_nil]); first | done | rfl | (simp only [List.length_drop, List.length_take]; rfl)) ?_
                                            with_reducible refine (insolvencylaw27_awake.calls kj39  true _ A51.out).mono ?_
                                            rintro e w60 ⟨rfl, hb⟩
                                            have HS0_ := (hb.cell (World.block_lt_of_cell? _ _ (hHeld.1))).trans (hHeld.1)
                                            have HS1_ := (hb.cell (World.block_lt_of_cell? _ _ (hHeld.2.1))).trans (hHeld.2.1)
                                            have HS2_ := (hb.cell (World.block_lt_of_cell? _ _ (hHeld.2.2.1))).trans (hHeld.2.2.1)
                                            have HS3_ := (hb.cell (World.block_lt_of_cell? _ _ (hHeld.2.2.2.1))).trans (hHeld.2.2.2.1)
                                            have HS4_ := (hb.cell (World.block_lt_of_cell? _ _ (hHeld.2.2.2.2.1))).trans (hHeld.2.2.2.2.1)
                                            have HS5_ := (hb.cell (World.block_lt_of_cell? _ _ (hHeld.2.2.2.2.2.1))).trans (hHeld.2.2.2.2.2.1)
                                            have HS6_ := (hb.cell (World.block_lt_of_cell? _ _ (hHeld.2.2.2.2.2.2))).trans (hHeld.2.2.2.2.2.2)
                                            refine ⟨_, rfl, ?_⟩
                                            have n0_ := Aside0.mk (Kd.R_below (by (with_reducible repeat (first | apply Kd.R_alloc | apply Kd.R_drewN | apply Kd.R_drew)); exact HO_7.out) hb)
                                            have n1_ := Aside0.mk (Kd.R_below (by (with_reducible repeat (first | apply Kd.R_alloc | apply Kd.R_drewN | apply Kd.R_drew)); exact HO_15.out) hb)
                                            have n2_ := Aside0.mk (blk_below (g := gb229) (o := .cells #[.int .u8 a1_0, .int .u8 a1_1, .int .u8 a1_2, .int .u8 a1_3] 23 (0, 0)) (by (with_reducible repeat (first | refine blk_drewN ?_ _ | refine blk_drew ?_ | refine blk_alloc ?_ _)); exact BK229.out) hb)
                                            have n3_ := Aside0.mk (Kd.C_below (by repeat (first | (with_reducible exact HR240.out) | (with_reducible refine Kd.C_alloc ?_ _) | (with_reducible refine Kd.C_drewN ?_ _) | (with_reducible refine Kd.C_drew ?_) | exact HR240.out)) hb)
                                            have n4_ := Aside0.mk (below_step (by repeat (first | (with_reducible first | exact HB.out | apply below_alloc | apply pw_below_drewN | apply below_drew1 | refine below_set ?_ GE229.out) | exact HB.out)) hb)
                                            clear HO_7
                                            clear HO_15
                                            clear BK229
                                            clear HR240
                                            clear HB
                                            have HO_7 := n0_
                                            have HO_15 := n1_
                                            have BK229 := n2_
                                            have HR240 := n3_
                                            have HB := n4_
                                            clear n0_ n1_ n2_ n3_ n4_
                                            (try clear hb)
                                            (try clear hb2)
                                            (try clear hk)
                                            (try clear hi)
                                            obtain ⟨Ao61, co61, eo61⟩ := Kd.R_slice HO_15.out
                                            (first | subst eo61 | (injection eo61 with f1_ f2_ f3_; have f4_ := f1_.symm; have f5_ := f3_.symm; clear f1_ f2_ f3_; subst f4_; subst f5_))
                                            refine hK.out _ _ ⟨HS0_, HS1_, HS2_, HS3_, HS4_, HS5_, HS6_⟩ (fun hHeld => ?_)
                                            clear hK K
                                            refine norm_ (a' := ?_) ?_ ?_
                                            rotate_left
                                            · show Act.put _ (some 95) _ = _
                                              simp only [Act.put, List.setIfInBounds_toArray, List.set_cons_zero, List.set_cons_succ, i64_w, i32_w]
                                              rfl
                                            refine pure_ (i := 1) (N := some 96) (v := ?_) (a' := ?_) #[true, true, false, false, false, false, false, false, false, false, false, false, false, false, false, false, false] rfl rfl (any_of HT_.out (by kernel_rfl)) (fun _ _ _ h => h) (Or.inl ⟨by rfl, ?_⟩) ?_ ?_
                                            rotate_left
                                            · intro w'
                                              go_simp
                                              with_reducible rfl
                                            rotate_left
                                            · simp only [Act.put, List.setIfInBounds_toArray, List.set_cons_zero, List.set_cons_succ, i64_w, i32_w]
                                              rfl
                                            refine pure_ (i := 2) (N := some 97) (v := ?_) (a' := ?_) #[true, true, true, false, false, false, false, false, false, false, false, false, false, false, false, false, false] rfl rfl (any_of HT_.out (by kernel_rfl)) (fun _ _ _ h => h) (Or.inl ⟨by rfl, ?_⟩) ?_ ?_
                                            rotate_left
                                            · intro w'
                                              go_simp
                                              with_reducible rfl
                                            rotate_left
                                            · simp only [Act.put, List.setIfInBounds_toArray, List.set_cons_zero, List.set_cons_succ, i64_w, i32_w]
                                              rfl
                                            refine pure_ (i := 3) (N := some 98) (v := ?_) (a' := ?_) #[true, true, true, true, false, false, false, false, false, false, false, false, false, false, false, false, false] rfl rfl (any_of HT_.out (by kernel_rfl)) (fun _ _ _ h => h) (Or.inl ⟨by rfl, ?_⟩) ?_ ?_
                                            rotate_left
                                            · intro w'
                                              go_simp
                                              with_reducible rfl
                                            rotate_left
                                            · simp only [Act.put, List.setIfInBounds_toArray, List.set_cons_zero, List.set_cons_succ, i64_w, i32_w]
                                              rfl
                                            refine pure_ (i := 4) (N := some 99) (v := ?_) (a' := ?_) #[true, true, true, true, true, false, false, false, false, false, false, false, false, false, false, false, false] rfl rfl (any_of HT_.out (by kernel_rfl)) (fun _ _ _ h => h) (Or.inl ⟨by rfl, ?_⟩) ?_ ?_
                                            rotate_left
                                            · intro w'
                                              go_simp
                                              with_reducible rfl
                                            rotate_left
                                            · simp only [Act.put, List.setIfInBounds_toArray, List.set_cons_zero, List.set_cons_succ, i64_w, i32_w]
                                              rfl
                                            refine pure_ (i := 6) (N := some 101) (v := ?_) (a' := ?_) #[true, true, true, true, true, false, true, false, false, false, false, false, false, false, false, false, false] rfl rfl (any_of HT_.out (by kernel_rfl)) (fun _ _ _ h => h) (Or.inl ⟨by rfl, ?_⟩) ?_ ?_
                                            rotate_left
                                            · intro w'
                                              go_simp
                                              with_reducible rfl
                                            rotate_left
                                            · simp only [Act.put, List.setIfInBounds_toArray, List.set_cons_zero, List.set_cons_succ, i64_w, i32_w]
                                              rfl
                                            refine pure_ (i := 7) (N := some 102) (v := ?_) (a' := ?_) #[true, true, true, true, true, false, true, true, false, false, false, false, false, false, false, false, false] rfl rfl (any_of HT_.out (by kernel_rfl)) (fun _ _ _ h => h) (Or.inl ⟨by rfl, ?_⟩) ?_ ?_
                                            rotate_left
                                            · intro w'
                                              go_simp
                                              with_reducible rfl
                                            rotate_left
                                            · simp only [Act.put, List.setIfInBounds_toArray, List.set_cons_zero, List.set_cons_succ, i64_w, i32_w]
                                              rfl
                                            refine pure_ (i := 8) (N := some 103) (v := ?_) (a' := ?_) #[true, true, true, true, true, false, true, true, true, false, false, false, false, false, false, false, false] rfl rfl (any_of HT_.out (by kernel_rfl)) (fun _ _ _ h => h) (Or.inl ⟨by rfl, ?_⟩) ?_ ?_
                                            rotate_left
                                            · intro w'
                                              go_simp
                                              with_reducible rfl
                                            rotate_left
                                            · simp only [Act.put, List.setIfInBounds_toArray, List.set_cons_zero, List.set_cons_succ, i64_w, i32_w]
                                              rfl
                                            refine pure_ (i := 9) (N := some 104) (v := ?_) (a' := ?_) #[true, true, true, true, true, false, true, true, true, true, false, false, false, false, false, false, false] rfl rfl (any_of HT_.out (by kernel_rfl)) (fun _ _ _ h => h) (Or.inl ⟨by rfl, ?_⟩) ?_ ?_
                                            rotate_left
                                            · intro w'
                                              go_simp
                                              with_reducible rfl
                                            rotate_left
                                            · simp only [Act.put, List.setIfInBounds_toArray, List.set_cons_zero, List.set_cons_succ, i64_w, i32_w]
                                              rfl
                                            refine pure_ (i := 11) (N := some 106) (v := ?_) (a' := ?_) #[true, true, true, true, true, false, true, true, true, true, false, true, false, false, false, false, false] rfl rfl (any_of HT_.out (by kernel_rfl)) (fun _ _ _ h => h) (Or.inl ⟨by rfl, ?_⟩) ?_ ?_
                                            rotate_left
                                            · intro w'
                                              go_simp
                                              with_reducible rfl
                                            rotate_left
                                            · simp only [Act.put, List.setIfInBounds_toArray, List.set_cons_zero, List.set_cons_succ, i64_w, i32_w]
                                              rfl
                                            refine pure_ (i := 12) (N := some 107) (v := ?_) (a' := ?_) #[true, true, true, true, true, false, true, true, true, true, false, true, true, false, false, false, false] rfl rfl (any_of HT_.out (by kernel_rfl)) (fun _ _ _ h => h) (Or.inl ⟨by rfl, ?_⟩) ?_ ?_
                                            rotate_left
                                            · intro w'
                                              go_simp
                                              with_reducible rfl
                                            rotate_left
                                            · simp only [Act.put, List.setIfInBounds_toArray, List.set_cons_zero, List.set_cons_succ, i64_w, i32_w]
                                              rfl
                                            refine take_ (i := 5) (N := some 100) (v := ?_) (a' := ?_) #[true, true, true, true, true, true, true, true, true, true, false, true, true, false, false, false, false] rfl rfl (take_ofW HT_.out HW_.out (by kernel_rfl)) (fun _ _ _ h => h) (Or.inl ⟨by rfl, ?_⟩) hHeld ?_ ?_
                                            rotate_left
                                            · rintro w' ⟨s0, s1, s2, s3, s4, s5, s6⟩
                                              go_simp
                                              with_reducible rfl
                                            rotate_left
                                            · simp only [Act.put, List.setIfInBounds_toArray, List.set_cons_zero, List.set_cons_succ, i64_w, i32_w]
                                              rfl
                                            refine take_ (i := 10) (N := some 105) (v := ?_) (a' := ?_) #[true, true, true, true, true, true, true, true, true, true, true, true, true, false, false, false, false] rfl rfl (take_ofW HT_.out HW_.out (by kernel_rfl)) (fun _ _ _ h => h) (Or.inl ⟨by rfl, ?_⟩) hHeld ?_ ?_
                                            rotate_left
                                            · rintro w' ⟨s0, s1, s2, s3, s4, s5, s6⟩
                                              go_simp
                                              with_reducible rfl
                                            rotate_left
                                            · simp only [Act.put, List.setIfInBounds_toArray, List.set_cons_zero, List.set_cons_succ, i64_w, i32_w]
                                              rfl
                                            refine pure_ (i := 13) (N := some 108) (v := ?_) (a' := ?_) #[true, true, true, true, true, true, true, true, true, true, true, true, true, true, false, false, false] rfl rfl (any_of HT_.out (by kernel_rfl)) (fun _ _ _ h => h) (Or.inl ⟨by rfl, ?_⟩) ?_ ?_
                                            rotate_left
                                            · intro w'
                                              go_simp
                                              with_reducible rfl
                                            rotate_left
                                            · simp only [Act.put, List.setIfInBounds_toArray, List.set_cons_zero, List.set_cons_succ, i64_w, i32_w]
                                              rfl
                                            refine pure_ (i := 14) (N := some 109) (v := ?_) (a' := ?_) #[true, true, true, true, true, true, true, true, true, true, true, true, true, true, true, false, false] rfl rfl (any_of HT_.out (by kernel_rfl)) (fun _ _ _ h => h) (Or.inl ⟨by rfl, ?_⟩) ?_ ?_
                                            rotate_left
                                            · intro w'
                                              go_simp
                                              with_reducible rfl
                                            rotate_left
                                            · simp only [Act.put, List.setIfInBounds_toArray, List.set_cons_zero, List.set_cons_succ, i64_w, i32_w]
                                              rfl
                                            refine pure_ (i := 15) (N := some 110) (v := ?_) (a' := ?_) #[true, true, true, true, true, true, true, true, true, true, true, true, true, true, true, true, false] rfl rfl (any_of HT_.out (by kernel_rfl)) (fun _ _ _ h => h) (Or.inl ⟨by rfl, ?_⟩) ?_ ?_
                                            rotate_left
                                            · intro w'
                                              go_simp
                                              with_reducible rfl
                                            rotate_left
                                            · simp only [Act.put, List.setIfInBounds_toArray, List.set_cons_zero, List.set_cons_succ, i64_w, i32_w]
                                              rfl
                                            refine pure_ (i := 16) (N := some 6) (v := ?_) (a' := ?_) #[true, true, true, true, true, true, true, true, true, true, true, true, true, true, true, true, true] rfl rfl (any_of HT_.out (by kernel_rfl)) (fun _ _ _ h => h) (Or.inl ⟨by rfl, ?_⟩) ?_ ?_
                                            rotate_left
                                            · intro w'
                                              go_simp
                                              with_reducible rfl
                                            rotate_left
                                            · simp only [Act.put, List.setIfInBounds_toArray, List.set_cons_zero, List.set_cons_succ, i64_w, i32_w]
                                              rfl
                                            refine done_ (done_of HT_.out (by kernel_rfl)) ?_
                                            try go_wp2
                                            go_ret
                                            exact ⟨by first | rfl | (simp [errW_none, errW_some] <;> rfl) | (simp only [← hji18, ← hji57, ← hji58]; first | rfl | (simp [errW_none, errW_some] <;> rfl)) | (simp [*, errW_none, errW_some] <;> rfl), by repeat (first | (with_reducible first | exact HB.out | apply below_alloc | apply pw_below_drewN | apply below_drew1 | refine below_set ?_ GE229.out) | exact HB.out)⟩
                                          · rw [if_neg c56] at H
                                            exact absurd H (by simp)
                                        · rw [if_neg c55] at H
                                          exact absurd H (by simp)
                                      · rw [if_neg c54] at H
                                        exact absurd H (by simp)
                                    · rw [if_neg c53] at H
                                      exact absurd H (by simp)
                                  · replace c52 := Bool.eq_false_iff.mpr c52
                                    subst c52
                                    have H1 : (some false) = some r := by rw [if_neg (show ¬ (false = true) by decide)] at H; exact H
                                    clear H
                                    have H := H1
                                    clear H1
                                    obtain rfl := Option.some.inj H
                                    try go_wp2
                                    have n0_ := Aside0.mk (Kd.R_drew HO_7.out)
                                    have n1_ := Aside0.mk (Kd.R_drew HO_15.out)
                                    have n2_ := Aside0.mk (blk_drew BK229.out)
                                    have n3_ := Aside0.mk (Kd.C_drew HR240.out)
                                    have n4_ := Aside0.mk (below_drew1 HB.out)
                                    clear HO_7
                                    clear HO_15
                                    clear BK229
                                    clear HR240
                                    clear HB
                                    have HO_7 := n0_
                                    have HO_15 := n1_
                                    have BK229 := n2_
                                    have HR240 := n3_
                                    have HB := n4_
                                    clear n0_ n1_ n2_ n3_ n4_
                                    refine start_ (n := 17) (S := fun w' => True) (ds := []) #[false, false, false, false, false, false, false, false, false, false, false, false, false, false, false, false, false] (by kernel_rfl) rfl rfl trivial (fun hHeld => ?_); refine with_tabW insolvencylaw27_UndervalueKept.tab21 insolvencylaw27_UndervalueKept.bits21 (fun HT_ HW_ => ?_)
                                    generalize wc.drew = w62 at HO_7 HO_15 BK229 HR240 HB hHeld ⊢
                                    refine one_ (i := 0) (N := some 95) #[true, false, false, false, false, false, false, false, false, false, false, false, false, false, false, false, false] rfl rfl (one_of HT_.out (by kernel_rfl)) (by decide) (fun K hK => ?_)
                                    refine goes_ Try.func7 (by kernel_rfl) rfl #[] (by rfl) rfl rfl (by (try simp only [List.map_toArray, List.map_cons, List.map_nil]); first | done | rfl | (simp only [List.length_drop, List.length_take]; rfl)) ?_
                                    with_reducible refine (insolvencylaw27_awake.calls kj39  false _ A51.out).mono ?_
                                    rintro e w63 ⟨rfl, hb⟩
                                    refine ⟨_, rfl, ?_⟩
                                    have n0_ := Aside0.mk (Kd.R_below (by (with_reducible repeat (first | apply Kd.R_alloc | apply Kd.R_drewN | apply Kd.R_drew)); exact HO_7.out) hb)
                                    have n1_ := Aside0.mk (Kd.R_below (by (with_reducible repeat (first | apply Kd.R_alloc | apply Kd.R_drewN | apply Kd.R_drew)); exact HO_15.out) hb)
                                    have n2_ := Aside0.mk (blk_below (g := gb229) (o := .cells #[.int .u8 a1_0, .int .u8 a1_1, .int .u8 a1_2, .int .u8 a1_3] 23 (0, 0)) (by (with_reducible repeat (first | refine blk_drewN ?_ _ | refine blk_drew ?_ | refine blk_alloc ?_ _)); exact BK229.out) hb)
                                    have n3_ := Aside0.mk (Kd.C_below (by repeat (first | (with_reducible exact HR240.out) | (with_reducible refine Kd.C_alloc ?_ _) | (with_reducible refine Kd.C_drewN ?_ _) | (with_reducible refine Kd.C_drew ?_) | exact HR240.out)) hb)
                                    have n4_ := Aside0.mk (below_step (by repeat (first | (with_reducible first | exact HB.out | apply below_alloc | apply pw_below_drewN | apply below_drew1 | refine below_set ?_ GE229.out) | exact HB.out)) hb)
                                    clear HO_7
                                    clear HO_15
                                    clear BK229
                                    clear HR240
                                    clear HB
                                    have HO_7 := n0_
                                    have HO_15 := n1_
                                    have BK229 := n2_
                                    have HR240 := n3_
                                    have HB := n4_
                                    clear n0_ n1_ n2_ n3_ n4_
                                    (try clear hb)
                                    (try clear hb2)
                                    (try clear hk)
                                    (try clear hi)
                                    refine hK.out _ _ trivial (fun hHeld => ?_)
                                    clear hK K
                                    refine norm_ (a' := ?_) ?_ ?_
                                    rotate_left
                                    · show Act.put _ (some 95) _ = _
                                      simp only [Act.put, List.setIfInBounds_toArray, List.set_cons_zero, List.set_cons_succ, i64_w, i32_w]
                                      rfl
                                    refine pure_ (i := 1) (N := some 96) (v := ?_) (a' := ?_) #[true, true, false, false, false, false, false, false, false, false, false, false, false, false, false, false, false] rfl rfl (any_of HT_.out (by kernel_rfl)) (fun _ _ _ h => h) (Or.inl ⟨by rfl, ?_⟩) ?_ ?_
                                    rotate_left
                                    · intro w'
                                      go_simp
                                      with_reducible rfl
                                    rotate_left
                                    · simp only [Act.put, List.setIfInBounds_toArray, List.set_cons_zero, List.set_cons_succ, i64_w, i32_w]
                                      rfl
                                    refine pure_ (i := 2) (N := some 97) (v := undef) (a' := ?_) #[true, true, true, false, false, false, false, false, false, false, false, false, false, false, false, false, false] rfl rfl (any_of HT_.out (by kernel_rfl)) (fun _ _ _ h => h) (Or.inr ⟨by rfl, rfl⟩) ?_ ?_
                                    rotate_left
                                    · simp only [Act.put, List.setIfInBounds_toArray, List.set_cons_zero, List.set_cons_succ, i64_w, i32_w]
                                      rfl
                                    refine pure_ (i := 3) (N := some 98) (v := undef) (a' := ?_) #[true, true, true, true, false, false, false, false, false, false, false, false, false, false, false, false, false] rfl rfl (any_of HT_.out (by kernel_rfl)) (fun _ _ _ h => h) (Or.inr ⟨by rfl, rfl⟩) ?_ ?_
                                    rotate_left
                                    · simp only [Act.put, List.setIfInBounds_toArray, List.set_cons_zero, List.set_cons_succ, i64_w, i32_w]
                                      rfl
                                    refine pure_ (i := 4) (N := some 99) (v := undef) (a' := ?_) #[true, true, true, true, true, false, false, false, false, false, false, false, false, false, false, false, false] rfl rfl (any_of HT_.out (by kernel_rfl)) (fun _ _ _ h => h) (Or.inr ⟨by rfl, rfl⟩) ?_ ?_
                                    rotate_left
                                    · simp only [Act.put, List.setIfInBounds_toArray, List.set_cons_zero, List.set_cons_succ, i64_w, i32_w]
                                      rfl
                                    refine pure_ (i := 5) (N := some 100) (v := undef) (a' := ?_) #[true, true, true, true, true, true, false, false, false, false, false, false, false, false, false, false, false] rfl rfl (any_of HT_.out (by kernel_rfl)) (fun _ _ _ h => h) (Or.inr ⟨by rfl, rfl⟩) ?_ ?_
                                    rotate_left
                                    · simp only [Act.put, List.setIfInBounds_toArray, List.set_cons_zero, List.set_cons_succ, i64_w, i32_w]
                                      rfl
                                    refine pure_ (i := 6) (N := some 101) (v := undef) (a' := ?_) #[true, true, true, true, true, true, true, false, false, false, false, false, false, false, false, false, false] rfl rfl (any_of HT_.out (by kernel_rfl)) (fun _ _ _ h => h) (Or.inr ⟨by rfl, rfl⟩) ?_ ?_
                                    rotate_left
                                    · simp only [Act.put, List.setIfInBounds_toArray, List.set_cons_zero, List.set_cons_succ, i64_w, i32_w]
                                      rfl
                                    refine pure_ (i := 7) (N := some 102) (v := undef) (a' := ?_) #[true, true, true, true, true, true, true, true, false, false, false, false, false, false, false, false, false] rfl rfl (any_of HT_.out (by kernel_rfl)) (fun _ _ _ h => h) (Or.inr ⟨by rfl, rfl⟩) ?_ ?_
                                    rotate_left
                                    · simp only [Act.put, List.setIfInBounds_toArray, List.set_cons_zero, List.set_cons_succ, i64_w, i32_w]
                                      rfl
                                    refine pure_ (i := 8) (N := some 103) (v := undef) (a' := ?_) #[true, true, true, true, true, true, true, true, true, false, false, false, false, false, false, false, false] rfl rfl (any_of HT_.out (by kernel_rfl)) (fun _ _ _ h => h) (Or.inr ⟨by rfl, rfl⟩) ?_ ?_
                                    rotate_left
                                    · simp only [Act.put, List.setIfInBounds_toArray, List.set_cons_zero, List.set_cons_succ, i64_w, i32_w]
                                      rfl
                                    refine pure_ (i := 9) (N := some 104) (v := undef) (a' := ?_) #[true, true, true, true, true, true, true, true, true, true, false, false, false, false, false, false, false] rfl rfl (any_of HT_.out (by kernel_rfl)) (fun _ _ _ h => h) (Or.inr ⟨by rfl, rfl⟩) ?_ ?_
                                    rotate_left
                                    · simp only [Act.put, List.setIfInBounds_toArray, List.set_cons_zero, List.set_cons_succ, i64_w, i32_w]
                                      rfl
                                    refine pure_ (i := 10) (N := some 105) (v := undef) (a' := ?_) #[true, true, true, true, true, true, true, true, true, true, true, false, false, false, false, false, false] rfl rfl (any_of HT_.out (by kernel_rfl)) (fun _ _ _ h => h) (Or.inr ⟨by rfl, rfl⟩) ?_ ?_
                                    rotate_left
                                    · simp only [Act.put, List.setIfInBounds_toArray, List.set_cons_zero, List.set_cons_succ, i64_w, i32_w]
                                      rfl
                                    refine pure_ (i := 11) (N := some 106) (v := undef) (a' := ?_) #[true, true, true, true, true, true, true, true, true, true, true, true, false, false, false, false, false] rfl rfl (any_of HT_.out (by kernel_rfl)) (fun _ _ _ h => h) (Or.inr ⟨by rfl, rfl⟩) ?_ ?_
                                    rotate_left
                                    · simp only [Act.put, List.setIfInBounds_toArray, List.set_cons_zero, List.set_cons_succ, i64_w, i32_w]
                                      rfl
                                    refine pure_ (i := 12) (N := some 107) (v := undef) (a' := ?_) #[true, true, true, true, true, true, true, true, true, true, true, true, true, false, false, false, false] rfl rfl (any_of HT_.out (by kernel_rfl)) (fun _ _ _ h => h) (Or.inr ⟨by rfl, rfl⟩) ?_ ?_
                                    rotate_left
                                    · simp only [Act.put, List.setIfInBounds_toArray, List.set_cons_zero, List.set_cons_succ, i64_w, i32_w]
                                      rfl
                                    refine pure_ (i := 13) (N := some 108) (v := undef) (a' := ?_) #[true, true, true, true, true, true, true, true, true, true, true, true, true, true, false, false, false] rfl rfl (any_of HT_.out (by kernel_rfl)) (fun _ _ _ h => h) (Or.inr ⟨by rfl, rfl⟩) ?_ ?_
                                    rotate_left
                                    · simp only [Act.put, List.setIfInBounds_toArray, List.set_cons_zero, List.set_cons_succ, i64_w, i32_w]
                                      rfl
                                    refine pure_ (i := 14) (N := some 109) (v := undef) (a' := ?_) #[true, true, true, true, true, true, true, true, true, true, true, true, true, true, true, false, false] rfl rfl (any_of HT_.out (by kernel_rfl)) (fun _ _ _ h => h) (Or.inr ⟨by rfl, rfl⟩) ?_ ?_
                                    rotate_left
                                    · simp only [Act.put, List.setIfInBounds_toArray, List.set_cons_zero, List.set_cons_succ, i64_w, i32_w]
                                      rfl
                                    refine pure_ (i := 15) (N := some 110) (v := ?_) (a' := ?_) #[true, true, true, true, true, true, true, true, true, true, true, true, true, true, true, true, false] rfl rfl (any_of HT_.out (by kernel_rfl)) (fun _ _ _ h => h) (Or.inl ⟨by rfl, ?_⟩) ?_ ?_
                                    rotate_left
                                    · intro w'
                                      go_simp
                                      with_reducible rfl
                                    rotate_left
                                    · simp only [Act.put, List.setIfInBounds_toArray, List.set_cons_zero, List.set_cons_succ, i64_w, i32_w]
                                      rfl
                                    refine pure_ (i := 16) (N := some 6) (v := ?_) (a' := ?_) #[true, true, true, true, true, true, true, true, true, true, true, true, true, true, true, true, true] rfl rfl (any_of HT_.out (by kernel_rfl)) (fun _ _ _ h => h) (Or.inl ⟨by rfl, ?_⟩) ?_ ?_
                                    rotate_left
                                    · intro w'
                                      go_simp
                                      with_reducible rfl
                                    rotate_left
                                    · simp only [Act.put, List.setIfInBounds_toArray, List.set_cons_zero, List.set_cons_succ, i64_w, i32_w]
                                      rfl
                                    refine done_ (done_of HT_.out (by kernel_rfl)) ?_
                                    try go_wp2
                                    go_ret
                                    exact ⟨by first | rfl | (simp [errW_none, errW_some] <;> rfl) | (simp only [← hji18]; first | rfl | (simp [errW_none, errW_some] <;> rfl)) | (simp [*, errW_none, errW_some] <;> rfl), by repeat (first | (with_reducible first | exact HB.out | apply below_alloc | apply pw_below_drewN | apply below_drew1 | refine below_set ?_ GE229.out) | exact HB.out)⟩
                  · rw [if_neg c23] at H
                    exact absurd H (by simp)
                · rw [if_neg c22] at H
                  exact absurd H (by simp)
              · rw [if_neg c20] at H
                exact absurd H (by simp)
            · rw [if_neg c19] at H
              exact absurd H (by simp)
          · rw [if_neg c17] at H
            exact absurd H (by simp)
        · rw [if_neg c16] at H
          exact absurd H (by simp)

end Go.Proofs.Ytljenpakncmlkaa.PAll
