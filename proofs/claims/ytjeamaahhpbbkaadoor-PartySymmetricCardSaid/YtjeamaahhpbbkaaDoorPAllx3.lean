-- PRINTED by a session's own changed print
import Derived.Test.YtjeamaahhpbbkaaDoorPAllx0
import Derived.Test.YtjeamaahhpbbkaaDoorPAllx1
import Derived.Test.YtjeamaahhpbbkaaDoorPAllx2
namespace Go.Proofs.YtjeamaahhpbbkaaDoor.PAll
open Go.RowKit Go.Proofs.YtjeamaahhpbbkaaDoorW.PrintWords Go.Proofs.YtjeamaahhpbbkaaDoorW.PrintLast
set_option linter.unusedVariables false
set_option linter.unusedSimpArgs false

/-! ### insolvencyref1_reduced: function 66 -/
mutual
def insolvencyref1_reduced.j0 : Nat → Bool → List Int → List Int → List Int → Bool → Option (Bool × ByteArray × ByteArray)
 | 0, _, _, _, _, _ => none
 | k + 1, x0, x1, x2, x7, x24 => if x24 = true then ((insolvencyref1_divide.f k x1 x7).bind fun bt167 => ((insolvencyref1_divide.f k x2 x7).bind fun bt173 => (insolvencyref1_reduced.j1 k x0 bt167.1 bt173.1))) else (insolvencyref1_reduced.j1 k x0 x1 x2)
def insolvencyref1_reduced.j1 : Nat → Bool → List Int → List Int → Option (Bool × ByteArray × ByteArray)
 | 0, _, _, _ => none
 | k + 1, x0, x1, x2 => (insolvencyref1_text.f k x1).bind fun t179 => (if (x2.length : Int) > 1 then ((insolvencyref1_text.f k x2).bind fun t181 => (some (x0, t179, t181))) else (if 0 < (x2.length : Int) then (if (rd x2 0) > 1 then ((insolvencyref1_text.f k x2).bind fun t183 => (some (x0, t179, t183))) else (some (x0, t179, (⟨#[]⟩ : ByteArray)))) else (none)))
end
def insolvencyref1_reduced.f (k : Nat) (a0 : Bool) (l1 : List Int) (l2 : List Int) : Option (Bool × ByteArray × ByteArray) := if (l1.length : Int) = 0 then (some (false, (⟨#[]⟩ : ByteArray), (⟨#[]⟩ : ByteArray))) else ((insolvencyref1_common.f k l1 l2).bind fun t163 => (if (t163.length : Int) > 1 then (insolvencyref1_reduced.j0 k a0 l1 l2 t163 true) else (if 0 < (t163.length : Int) then (insolvencyref1_reduced.j0 k a0 l1 l2 t163 (decide ((rd t163 0) > 1))) else (none))))
theorem insolvencyref1_reduced.mono_l : ∀ k, (∀ y0 y1 y2 y3 y4, LeO (insolvencyref1_reduced.j0 k y0 y1 y2 y3 y4) (insolvencyref1_reduced.j0 (k + 1) y0 y1 y2 y3 y4)) ∧ (∀ y0 y1 y2, LeO (insolvencyref1_reduced.j1 k y0 y1 y2) (insolvencyref1_reduced.j1 (k + 1) y0 y1 y2))
 | 0 => ⟨fun _ _ _ _ _ r h => by simp [insolvencyref1_reduced.j0] at h, fun _ _ _ r h => by simp [insolvencyref1_reduced.j1] at h⟩
 | k + 1 => by
  obtain ⟨ih0, ih1⟩ := insolvencyref1_reduced.mono_l k
  refine ⟨?_, ?_⟩
  ·intro y0 y1 y2 y3 y4
   unfold insolvencyref1_reduced.j0
   repeat' first
   | (with_reducible exact ih0 _ _ _ _ _)
   | (with_reducible exact ih1 _ _ _)
   | (with_reducible exact insolvencyref1_common.mono _ _ _)
   | (with_reducible exact insolvencyref1_divide.mono _ _ _)
   | (with_reducible exact insolvencyref1_text.mono _ _)
   | (with_reducible exact LeO.refl _)
   | (with_reducible exact LeO.none _)
   | (with_reducible refine LeO.ite ?_ ?_)
   | (with_reducible refine LeO.bind ?_ (fun _ => ?_))
   | exact LeO.none _
   | refine LeO.ite ?_ ?_
   | refine LeO.bind ?_ (fun _ => ?_)
  ·intro y0 y1 y2
   unfold insolvencyref1_reduced.j1
   repeat' first
   | (with_reducible exact ih0 _ _ _ _ _)
   | (with_reducible exact ih1 _ _ _)
   | (with_reducible exact insolvencyref1_common.mono _ _ _)
   | (with_reducible exact insolvencyref1_divide.mono _ _ _)
   | (with_reducible exact insolvencyref1_text.mono _ _)
   | (with_reducible exact LeO.refl _)
   | (with_reducible exact LeO.none _)
   | (with_reducible refine LeO.ite ?_ ?_)
   | (with_reducible refine LeO.bind ?_ (fun _ => ?_))
   | exact LeO.none _
   | refine LeO.ite ?_ ?_
   | refine LeO.bind ?_ (fun _ => ?_)
theorem insolvencyref1_reduced.mono : ∀ a0 a1 a2 k, LeO (insolvencyref1_reduced.f k a0 a1 a2) (insolvencyref1_reduced.f (k + 1) a0 a1 a2) := by
 intro a0 a1 a2 k
 obtain ⟨ih0, ih1⟩ := insolvencyref1_reduced.mono_l k
 unfold insolvencyref1_reduced.f
 repeat' first
   | (with_reducible exact ih0 _ _ _ _ _)
   | (with_reducible exact ih1 _ _ _)
   | (with_reducible exact insolvencyref1_common.mono _ _ _)
   | (with_reducible exact insolvencyref1_divide.mono _ _ _)
   | (with_reducible exact insolvencyref1_text.mono _ _)
   | (with_reducible exact LeO.refl _)
   | (with_reducible exact LeO.none _)
   | (with_reducible refine LeO.ite ?_ ?_)
   | (with_reducible refine LeO.bind ?_ (fun _ => ?_))
   | exact LeO.none _
   | refine LeO.ite ?_ ?_
   | refine LeO.bind ?_ (fun _ => ?_)
set_option maxHeartbeats 8000000 in
set_option maxRecDepth 100000 in
theorem insolvencyref1_reduced.calls (k : Nat) (a0 : Bool) (P1_ : Nat → Prop) (A1 : Option Addr) (c1 : Nat) (l1 : List Int) (P2_ : Nat → Prop) (A2 : Option Addr) (c2 : Nat) (l2 : List Int) (r1 : Bool) (r2 : ByteArray) (r3 : ByteArray) (w : World) (hs1 : Kd.V (Kd.int .u32) 86 w w.heap.size (fun k_ => P1_ k_) (.slice A1 l1.length c1) l1) (hs2 : Kd.V (Kd.int .u32) 86 w w.heap.size (fun k_ => P2_ k_) (.slice A2 l2.length c2) l2) (h : insolvencyref1_reduced.f k a0 l1 l2 = some (r1, r2, r3)) :
  Calls Tryd.prog 66 #[.bool a0, .slice A1 l1.length c1, .slice A2 l2.length c2] w fun e w' => e = .returned (.agg #[.bool r1, .string r2, .string r3]) ∧ Below w.heap.size w w' := by
 have hu33 := Tryd.underlying33
 have HO1 := aM (show Kd.V (Kd.int .u32) 86 w w.heap.size (fun k_ => ((P1_ k_ ∨ P2_ k_) ∨ w.heap.size ≤ k_)) (.slice A1 l1.length c1) l1 from Kd.V_mono hs1 (fun k_ hk => .inl (.inl hk)))
 have HO2 := aM (show Kd.V (Kd.int .u32) 86 w w.heap.size (fun k_ => ((P1_ k_ ∨ P2_ k_) ∨ w.heap.size ≤ k_)) (.slice A2 l2.length c2) l2 from Kd.V_mono hs2 (fun k_ hk => .inl (.inr hk)))
 have HB := aM (Below.refl w.heap.size w)
 have H : (if (l1.length : Int) = 0 then (some (false, (⟨#[]⟩ : ByteArray), (⟨#[]⟩ : ByteArray))) else ((insolvencyref1_common.f k l1 l2).bind fun t163 => (if (t163.length : Int) > 1 then (insolvencyref1_reduced.j0 k a0 l1 l2 t163 true) else (if 0 < (t163.length : Int) then (insolvencyref1_reduced.j0 k a0 l1 l2 t163 (decide ((rd t163 0) > 1))) else (none))))) = some (r1, r2, r3) := h
 clear h
 by_cases c4 : (l1.length : Int) = 0
 ·rw [if_pos c4] at H
  have c4b0 : ((l1.length : Int) == 0) = true := beq_iff_eq.mpr c4
  have c4b1 : ((l1.length : Int) != 0) = false := bne_eq_false_iff_eq.mpr c4
  clear c4
  simp only [Option.some.injEq, Prod.mk.injEq] at H
  obtain ⟨rfl, rfl, rfl⟩ := H
  go_enter Tryd.func66, Tryd.ntmps66
  go_wp2_with (first | ((with_reducible refine gate_dst (N := 6) rfl ?_); refine box_event ?hg (N := 6) ?hd (cs := #[.bool false, .string (⟨#[]⟩ : ByteArray), .string (⟨#[]⟩ : ByteArray)]) (t := 33) ?hr ?_; (case hd => rfl); (case hg => rfl); (case hr => first | (go_simp; done) | (go_simp; rfl)); intro gb162 hg w5 hbox hb; have n0_ := aM (Kd.V_below (Kd.V_elderB (Kd.V_up HO1.out) gb162 (Nat.le_of_eq hg.symm)) hb); have n1_ := aM (Kd.V_below (Kd.V_elderB (Kd.V_up HO2.out) gb162 (Nat.le_of_eq hg.symm)) hb); have n2_ := aM (below_step (bU HB.out) hb); have n3_ := aM (hbox); have n4_ := aM ((by rw [hg]; exact (below_size (bU HB.out)) : w.heap.size ≤ gb162)); have n5_ := aM ((by rw [hg]; exact (below_size (bU HB.out)) : w.heap.size ≤ gb162)); clear HO1; clear HO2; clear HB; have HO1 := n0_; have HO2 := n1_; have HB := n2_; have BK162 := n3_; have GW162 := n4_; have GE162 := n5_; clear n0_ n1_ n2_ n3_ n4_ n5_; clear hb hbox hg; obtain ⟨hcz6_0, hcz6_1, hcz6_2, hfz6_0, hfz6_1, hfz6_2⟩ := cz3 BK162.out))
  refine bodyPost_ret (results_cell_row rfl _ _ gb162 33 #[.bool false, .string (⟨#[]⟩ : ByteArray), .string (⟨#[]⟩ : ByteArray)] (0, 0) _ rfl (kP BK162.out) Tryd.underlying33 rfl (by kernel_rfl)) rfl ?_
  exact ⟨by first | rfl | (simp [errW_none, errW_some] <;> rfl) | (simp [*, errW_none, errW_some] <;> rfl), bU HB.out⟩
 ·rw [if_neg c4] at H
  have c4b0 : ((l1.length : Int) == 0) = false := beq_eq_false_iff_ne.mpr c4
  have c4b1 : ((l1.length : Int) != 0) = true := bne_iff_ne.mpr c4
  have c4b2 : ¬ (l1 = []) := fun h_ => c4 (by rw [h_]; rfl)
  replace H := bE H
  obtain ⟨t163, A70, H⟩ := H
  replace H : (if (t163.length : Int) > 1 then (insolvencyref1_reduced.j0 k a0 l1 l2 t163 true) else (if 0 < (t163.length : Int) then (insolvencyref1_reduced.j0 k a0 l1 l2 t163 (decide ((rd t163 0) > 1))) else (none))) = some (r1, r2, r3) := H
  have A7 := Aside0.mk A70
  clear A70
  have HC8 := Aside0.mk H
  clear H
  go_enter Tryd.func66, Tryd.ntmps66
  go_upto_region 4 with (first | ((with_reducible refine gate_dst (N := 6) rfl ?_); refine box_event ?hg (N := 6) ?hd (cs := #[.bool false, .string (⟨#[]⟩ : ByteArray), .string (⟨#[]⟩ : ByteArray)]) (t := 33) ?hr ?_; (case hd => rfl); (case hg => rfl); (case hr => first | (go_simp; done) | (go_simp; rfl)); intro gb162 hg w9 hbox hb; have n0_ := aM (Kd.V_below (Kd.V_elderB (Kd.V_up HO1.out) gb162 (Nat.le_of_eq hg.symm)) hb); have n1_ := aM (Kd.V_below (Kd.V_elderB (Kd.V_up HO2.out) gb162 (Nat.le_of_eq hg.symm)) hb); have n2_ := aM (below_step (bU HB.out) hb); have n3_ := aM (hbox); have n4_ := aM ((by rw [hg]; exact (below_size (bU HB.out)) : w.heap.size ≤ gb162)); have n5_ := aM ((by rw [hg]; exact (below_size (bU HB.out)) : w.heap.size ≤ gb162)); clear HO1; clear HO2; clear HB; have HO1 := n0_; have HO2 := n1_; have HB := n2_; have BK162 := n3_; have GW162 := n4_; have GE162 := n5_; clear n0_ n1_ n2_ n3_ n4_ n5_; clear hb hbox hg) | ((with_reducible refine gate_callee (f := 82) rfl ?_); refine goesLq (some 15) rfl rfl Tryd.func82 #[.slice A1 l1.length c1, .slice A2 l2.length c2] rfl ?_; (with_reducible refine (insolvencyref1_common.calls k (fun k_ => (((P1_ k_ ∨ P2_ k_) ∨ w.heap.size ≤ k_) ∧ k_ ≠ gb162)) _ _ l1 (fun k_ => (((P1_ k_ ∨ P2_ k_) ∨ w.heap.size ≤ k_) ∧ k_ ≠ gb162)) _ _ l2 t163 _ ?side1 ?side2 A7.out).mono ?_); (case side1 => exact HO1.out); (case side2 => exact HO2.out); rintro e w10 ⟨v164, rfl, ho0, hb⟩; refine ⟨_, rfl, ?_⟩; have n0_ := aM (Kd.V_below (Kd.V_up HO1.out) hb); have n1_ := aM (Kd.V_below (Kd.V_up HO2.out) hb); have n2_ := aM (Kd.V_lower (Kd.V_mono (ok' := fun k_ => ((P1_ k_ ∨ P2_ k_) ∨ w.heap.size ≤ k_) ∧ k_ ≠ gb162) ho0 (fun k_ hk_ => ⟨Or.elim hk_ (fun hs_ => Or.elim hs_ (fun hs_ => hs_.1) (fun hs_ => hs_.1)) (fun hn_ => (.inr (Nat.le_trans (below_size (bU HB.out)) hn_))), Or.elim hk_ (fun hs_ => Or.elim hs_ (fun hs_ => hs_.2) (fun hs_ => hs_.2)) (fun hn_ => (Kd.freshB (kU BK162.out) k_ hn_))⟩)) (below_size (bU HB.out))); have n3_ := aM (blk_below (kU BK162.out) hb); have n4_ := aM (below_step (bU HB.out) hb); clear HO1; clear HO2; clear BK162; clear HB; have HO1 := n0_; have HO2 := n1_; have HO165 := n2_; have BK162 := n3_; have HB := n4_; clear n0_ n1_ n2_ n3_ n4_; (try clear hb); (try clear hb2); (try clear hk); (try clear hi); (try clear ho0)))
  (try simp only [Act.put, List.setIfInBounds_toArray, List.set_cons_zero, List.set_cons_succ])
  go_cut [24] (fun v24 wc => ∃ (kq : Nat) (x24_7 : Bool), v24 = .bool x24_7 ∧ Aside0 (insolvencyref1_reduced.j0 kq a0 l1 l2 t163 x24_7 = some (r1, r2, r3)) ∧ Aside0 (kq ≤ k) ∧ Aside0 (Kd.V (Kd.int .u32) 86 wc w.heap.size (fun k_ => ((P1_ k_ ∨ P2_ k_) ∨ w.heap.size ≤ k_) ∧ k_ ≠ gb162) (.slice A1 l1.length c1) l1) ∧ Aside0 (Kd.V (Kd.int .u32) 86 wc w.heap.size (fun k_ => ((P1_ k_ ∨ P2_ k_) ∨ w.heap.size ≤ k_) ∧ k_ ≠ gb162) (.slice A2 l2.length c2) l2) ∧ Aside0 (Kd.V (Kd.int .u32) 86 wc w.heap.size (fun k_ => ((P1_ k_ ∨ P2_ k_) ∨ w.heap.size ≤ k_) ∧ k_ ≠ gb162) v164 t163) ∧ Aside0 (wc.heap[gb162]? = some (.cells #[.bool false, .string (⟨#[]⟩ : ByteArray), .string (⟨#[]⟩ : ByteArray)] 33 (0, 0))) ∧ Aside0 (Below w.heap.size w wc))
  case first =>
   have H := HC8.out
   clear HC8
   by_cases c11 : (t163.length : Int) > 1
   ·rw [if_pos c11] at H
    have c11b0 : decide (1 < (t163.length : Int)) = true := decide_eq_true c11
    have c11b1 : decide (1 < t163.length) = true := decide_eq_true (by omega)
    clear c11
    (first | rw [c11b0] | (simp only [i64_w, i32_w]; rw [c11b0]) | rw [c11b1] | skip)
    have H' := Aside0.mk H
    clear H
    obtain ⟨Ao12, co12, eo12⟩ := Kd.V_slice HO165.out
    subst eo12
    go_wp2
    go_meet
    case rel => exact ⟨_, (true), (by first | rfl | (simp; done) | (simp [*]; done)), H', ⟨by first | omega | exact Nat.le_refl _⟩, ⟨Kd.V_up HO1.out⟩, ⟨Kd.V_up HO2.out⟩, ⟨Kd.V_up HO165.out⟩, ⟨kU BK162.out⟩, ⟨bU HB.out⟩⟩
   ·rw [if_neg c11] at H
    have c11b0 : decide (1 < (t163.length : Int)) = false := decide_eq_false c11
    have c11b1 : decide (1 < t163.length) = false := decide_eq_false (by omega)
    clear c11
    (first | rw [c11b0] | (simp only [i64_w, i32_w]; rw [c11b0]) | rw [c11b1] | skip)
    by_cases c13 : 0 < (t163.length : Int)
    ·rw [if_pos c13] at H
     have c13b0 := decide_eq_true c13
     have c13b1 : decide (0 < t163.length) = true := decide_eq_true (by omega)
     clear c13
     have H' := Aside0.mk H
     clear H
     obtain ⟨Ao14, co14, eo14⟩ := Kd.V_slice HO165.out
     subst eo14
     have p166 : 0 ≤ (0 : Int) := (by omega)
     have q166 : 0 < (t163.length : Int) := oD
     obtain ⟨ad166, e166, hx166_0⟩ := Kd.at_int (Kd.V_reads' HO165.out).2.2 0 p166 q166
     cases e166
     have qi166 : (0 < t163.length) = True := eq_true (by omega)
     (try rw [show ((0 : Int)).toNat = 0 from rfl] at hx166_0)
     (try rw [Addr.add_zero'] at hx166_0)
     replace p166 := eq_true p166
     replace q166 := eq_true q166
     go_wp2
     go_meet
     case rel => exact ⟨_, (decide ((rd t163 0) > 1)), (by first | rfl | (simp; done) | (simp [*]; done)), H', ⟨by first | omega | exact Nat.le_refl _⟩, ⟨Kd.V_up HO1.out⟩, ⟨Kd.V_up HO2.out⟩, ⟨Kd.V_up HO165.out⟩, ⟨kU BK162.out⟩, ⟨bU HB.out⟩⟩
    ·rw [if_neg c13] at H
     exact absurd H (by simp)
  case rest =>
   clear HC8
   (try clear c1); (try clear p1); (try clear q1); (try clear hx1); (try clear qi1); (try clear c2); (try clear p2); (try clear c4); (try clear c4b0); (try clear c4b1); (try clear c4b2); (try clear c6); (try clear c8); (try clear c11); (try clear c11b0); (try clear c11b1); (try clear c13); (try clear c13b0); (try clear c13b1); (try clear hcz6_0 hcz6_1 hcz6_2); (try clear hfz6_0 hfz6_1 hfz6_2); (try clear hx166_0); (try clear p166); (try clear q166)
   obtain ⟨kq, x24_7, rfl, HA, HJ7, HO_1, HO_2, HO_7, BK162, HB⟩ := hcut
   cases kq with
   | zero => exact absurd HA.out (by simp [insolvencyref1_reduced.j0])
   | succ kj7 =>
    have H := HA.out
    clear HA
    simp only [insolvencyref1_reduced.j0] at H
    have HC15 := Aside0.mk H
    clear H
    go_upto_if 24 with (fail)
    go_cut [1, 2] (fun v1 v2 wc => ∃ (kq : Nat) (x1_14 : List Int) (x2_14 : List Int), Aside0 (insolvencyref1_reduced.j1 kq a0 x1_14 x2_14 = some (r1, r2, r3)) ∧ Aside0 (kq ≤ kj7) ∧ Aside0 (Kd.V (Kd.int .u32) 86 wc w.heap.size (fun k_ => ((P1_ k_ ∨ P2_ k_) ∨ w.heap.size ≤ k_) ∧ k_ ≠ gb162) v1 x1_14) ∧ Aside0 (Kd.V (Kd.int .u32) 86 wc w.heap.size (fun k_ => ((P1_ k_ ∨ P2_ k_) ∨ w.heap.size ≤ k_) ∧ k_ ≠ gb162) v2 x2_14) ∧ Aside0 (wc.heap[gb162]? = some (.cells #[.bool false, .string (⟨#[]⟩ : ByteArray), .string (⟨#[]⟩ : ByteArray)] 33 (0, 0))) ∧ Aside0 (Below w.heap.size w wc))
    case first =>
     have H := HC15.out
     clear HC15
     by_cases c16 : x24_7 = true
     ·subst c16
      have H1 : ((insolvencyref1_divide.f kj7 l1 t163).bind fun bt167 => ((insolvencyref1_divide.f kj7 l2 t163).bind fun bt173 => (insolvencyref1_reduced.j1 kj7 a0 bt167.1 bt173.1))) = some (r1, r2, r3) := by rw [if_pos rfl] at H; exact H
      clear H
      have H := H1
      clear H1
      replace H := bE H
      obtain ⟨⟨t167, t170⟩, A170, H⟩ := H
      replace H : ((insolvencyref1_divide.f kj7 l2 t163).bind fun bt173 => (insolvencyref1_reduced.j1 kj7 a0 t167 bt173.1)) = some (r1, r2, r3) := H
      have A17 := Aside0.mk A170
      clear A170
      replace H := bE H
      obtain ⟨⟨t173, t176⟩, A180, H⟩ := H
      replace H : (insolvencyref1_reduced.j1 kj7 a0 t167 t173) = some (r1, r2, r3) := H
      have A18 := Aside0.mk A180
      clear A180
      have H' := Aside0.mk H
      clear H
      obtain ⟨Ao19, co19, eo19⟩ := Kd.V_slice HO_7.out
      subst eo19
      go_wp2_with (first | ((with_reducible refine gate_callee (f := 83) rfl ?_); refine goesLq (some 28) rfl rfl Tryd.func83 #[.slice A1 l1.length c1, .slice Ao19 t163.length co19] rfl ?_; (with_reducible refine (insolvencyref1_divide.calls kj7 (fun k_ => (((P1_ k_ ∨ P2_ k_) ∨ w.heap.size ≤ k_) ∧ k_ ≠ gb162)) _ _ l1 _ _ t163 t167 t170 _ ?side1 ?side2 ?side3 A17.out).mono ?_); (case side1 => exact HO_1.out); (case side2 => exact Kd.C_up (Kd.V_reads' HO_7.out).2.2); (case side3 => exact (Kd.V_reads' HO_7.out).2.1); rintro e w20 ⟨v168, v171, rfl, ho0, ho1, hb⟩; refine ⟨_, rfl, ?_⟩; have n0_ := aM (Kd.V_below (Kd.V_up HO_1.out) hb); have n1_ := aM (Kd.V_below (Kd.V_up HO_2.out) hb); have n2_ := aM (Kd.V_below (Kd.V_up HO_7.out) hb); have n3_ := aM (Kd.V_lower (Kd.V_mono (ok' := fun k_ => ((P1_ k_ ∨ P2_ k_) ∨ w.heap.size ≤ k_) ∧ k_ ≠ gb162) ho0 (fun k_ hk_ => ⟨Or.elim hk_ (fun hs_ => hs_.1) (fun hn_ => (.inr (Nat.le_trans (below_size (bU HB.out)) hn_))), Or.elim hk_ (fun hs_ => hs_.2) (fun hn_ => (Kd.freshB (kU BK162.out) k_ hn_))⟩)) (below_size (bU HB.out))); have n4_ := aM (Kd.V_lower (Kd.V_mono (ok' := fun k_ => ((P1_ k_ ∨ P2_ k_) ∨ w.heap.size ≤ k_) ∧ k_ ≠ gb162) ho1 (fun k_ hk_ => ⟨Or.elim hk_ (fun hs_ => hs_.1) (fun hn_ => (.inr (Nat.le_trans (below_size (bU HB.out)) hn_))), Or.elim hk_ (fun hs_ => hs_.2) (fun hn_ => (Kd.freshB (kU BK162.out) k_ hn_))⟩)) (below_size (bU HB.out))); have n5_ := aM (blk_below (kU BK162.out) hb); have n6_ := aM (below_step (bU HB.out) hb); clear HO_1; clear HO_2; clear HO_7; clear BK162; clear HB; have HO_1 := n0_; have HO_2 := n1_; have HO_7 := n2_; have HO169 := n3_; have HO172 := n4_; have BK162 := n5_; have HB := n6_; clear n0_ n1_ n2_ n3_ n4_ n5_ n6_; (try clear hb); (try clear hb2); (try clear hk); (try clear hi); (try clear ho0); (try clear ho1)) | ((with_reducible refine gate_callee (f := 83) rfl ?_); refine goesLq (some 34) rfl rfl Tryd.func83 #[.slice A2 l2.length c2, .slice Ao19 t163.length co19] rfl ?_; (with_reducible refine (insolvencyref1_divide.calls kj7 (fun k_ => (((P1_ k_ ∨ P2_ k_) ∨ w.heap.size ≤ k_) ∧ k_ ≠ gb162)) _ _ l2 _ _ t163 t173 t176 _ ?side1 ?side2 ?side3 A18.out).mono ?_); (case side1 => exact HO_2.out); (case side2 => exact Kd.C_up (Kd.V_reads' HO_7.out).2.2); (case side3 => exact (Kd.V_reads' HO_7.out).2.1); rintro e w21 ⟨v174, v177, rfl, ho0, ho1, hb⟩; refine ⟨_, rfl, ?_⟩; have n0_ := aM (Kd.V_below (Kd.V_up HO_1.out) hb); have n1_ := aM (Kd.V_below (Kd.V_up HO_2.out) hb); have n2_ := aM (Kd.V_below (Kd.V_up HO_7.out) hb); have n3_ := aM (Kd.V_below (Kd.V_up HO169.out) hb); have n4_ := aM (Kd.V_below (Kd.V_up HO172.out) hb); have n5_ := aM (Kd.V_lower (Kd.V_mono (ok' := fun k_ => ((P1_ k_ ∨ P2_ k_) ∨ w.heap.size ≤ k_) ∧ k_ ≠ gb162) ho0 (fun k_ hk_ => ⟨Or.elim hk_ (fun hs_ => hs_.1) (fun hn_ => (.inr (Nat.le_trans (below_size (bU HB.out)) hn_))), Or.elim hk_ (fun hs_ => hs_.2) (fun hn_ => (Kd.freshB (kU BK162.out) k_ hn_))⟩)) (below_size (bU HB.out))); have n6_ := aM (Kd.V_lower (Kd.V_mono (ok' := fun k_ => ((P1_ k_ ∨ P2_ k_) ∨ w.heap.size ≤ k_) ∧ k_ ≠ gb162) ho1 (fun k_ hk_ => ⟨Or.elim hk_ (fun hs_ => hs_.1) (fun hn_ => (.inr (Nat.le_trans (below_size (bU HB.out)) hn_))), Or.elim hk_ (fun hs_ => hs_.2) (fun hn_ => (Kd.freshB (kU BK162.out) k_ hn_))⟩)) (below_size (bU HB.out))); have n7_ := aM (blk_below (kU BK162.out) hb); have n8_ := aM (below_step (bU HB.out) hb); clear HO_1; clear HO_2; clear HO_7; clear HO169; clear HO172; clear BK162; clear HB; have HO_1 := n0_; have HO_2 := n1_; have HO_7 := n2_; have HO169 := n3_; have HO172 := n4_; have HO175 := n5_; have HO178 := n6_; have BK162 := n7_; have HB := n8_; clear n0_ n1_ n2_ n3_ n4_ n5_ n6_ n7_ n8_; (try clear hb); (try clear hb2); (try clear hk); (try clear hi); (try clear ho0); (try clear ho1)))
      go_meet
      case rel => exact ⟨_, (t167), (t173), H', ⟨by have := HJ7.out; first | omega | exact Nat.le_refl _⟩, ⟨Kd.V_up HO169.out⟩, ⟨Kd.V_up HO175.out⟩, ⟨kU BK162.out⟩, ⟨bU HB.out⟩⟩
     ·replace c16 := Bool.eq_false_iff.mpr c16
      subst c16
      have H1 : (insolvencyref1_reduced.j1 kj7 a0 l1 l2) = some (r1, r2, r3) := by rw [if_neg (show ¬ (false = true) by decide)] at H; exact H
      clear H
      have H := H1
      clear H1
      have H' := Aside0.mk H
      clear H
      go_wp2
      go_meet
      case rel => exact ⟨_, (l1), (l2), H', ⟨by have := HJ7.out; first | omega | exact Nat.le_refl _⟩, ⟨Kd.V_up HO_1.out⟩, ⟨Kd.V_up HO_2.out⟩, ⟨kU BK162.out⟩, ⟨bU HB.out⟩⟩
    case rest =>
     clear HC15
     (try clear c1); (try clear p1); (try clear q1); (try clear hx1); (try clear qi1); (try clear c2); (try clear p2); (try clear c4); (try clear c4b0); (try clear c4b1); (try clear c4b2); (try clear c6); (try clear c8); (try clear c11); (try clear c11b0); (try clear c11b1); (try clear c13); (try clear c13b0); (try clear c13b1); (try clear c16); (try clear p16); (try clear q16); (try clear hx16); (try clear qi16); (try clear hcz6_0 hcz6_1 hcz6_2); (try clear hfz6_0 hfz6_1 hfz6_2); (try clear hx166_0); (try clear p1); (try clear p166); (try clear p2); (try clear q1); (try clear q166)
     obtain ⟨kq, x1_14, x2_14, HA, HJ14, HO_1, HO_2, BK162, HB⟩ := hcut
     cases kq with
     | zero => exact absurd HA.out (by simp [insolvencyref1_reduced.j1])
     | succ kj14 =>
      have H := HA.out
      clear HA
      simp only [insolvencyref1_reduced.j1] at H
      replace H := bE H
      obtain ⟨t179, A220, H⟩ := H
      replace H : (if (x2_14.length : Int) > 1 then ((insolvencyref1_text.f kj14 x2_14).bind fun t181 => (some (a0, t179, t181))) else (if 0 < (x2_14.length : Int) then (if (rd x2_14 0) > 1 then ((insolvencyref1_text.f kj14 x2_14).bind fun t183 => (some (a0, t179, t183))) else (some (a0, t179, (⟨#[]⟩ : ByteArray)))) else (none))) = some (r1, r2, r3) := H
      have A22 := Aside0.mk A220
      clear A220
      by_cases c23 : (x2_14.length : Int) > 1
      ·rw [if_pos c23] at H
       have c23b0 : decide (1 < (x2_14.length : Int)) = true := decide_eq_true c23
       have c23b1 : decide (1 < x2_14.length) = true := decide_eq_true (by omega)
       clear c23
       replace H := bE H
       obtain ⟨t181, A240, H⟩ := H
       replace H : (some (a0, t179, t181)) = some (r1, r2, r3) := H
       have A24 := Aside0.mk A240
       clear A240
       simp only [Option.some.injEq, Prod.mk.injEq] at H
       obtain ⟨rfl, rfl, rfl⟩ := H
       obtain ⟨Ao25, co25, eo25⟩ := Kd.V_slice HO_1.out
       subst eo25
       go_wp2_with (first | ((with_reducible refine gate_callee (f := 70) rfl ?_); refine goesLq (some 39) rfl rfl Tryd.func70 #[.slice Ao25 x1_14.length co25] rfl ?_; (with_reducible refine (insolvencyref1_text.calls kj14 _ _ x1_14 t179 _ ?side1 ?side2 A22.out).mono ?_); (case side1 => exact Kd.C_up (Kd.V_reads' HO_1.out).2.2); (case side2 => exact (Kd.V_reads' HO_1.out).2.1); rintro e w26 ⟨rfl, hb⟩; refine ⟨_, rfl, ?_⟩; have n0_ := aM (Kd.V_below (Kd.V_up HO_1.out) hb); have n1_ := aM (Kd.V_below (Kd.V_up HO_2.out) hb); have n2_ := aM (blk_below (kU BK162.out) hb); have n3_ := aM (below_step (bU HB.out) hb); clear HO_1; clear HO_2; clear BK162; clear HB; have HO_1 := n0_; have HO_2 := n1_; have BK162 := n2_; have HB := n3_; clear n0_ n1_ n2_ n3_; (try clear hb); (try clear hb2); (try clear hk); (try clear hi)) | ((with_reducible refine gate_dst (N := 8) rfl ?_); refine box_event ?hg (N := 8) ?hd (cs := #[.bool false, .string (⟨#[]⟩ : ByteArray), .string (⟨#[]⟩ : ByteArray)]) (t := 33) ?hr ?_; (case hd => rfl); (case hg => rfl); (case hr => first | (go_simp; done) | (go_simp; rfl)); intro gb180 hg w27 hbox hb; have n0_ := aM (Kd.V_below (Kd.V_elderB (Kd.V_up HO_1.out) gb180 (Nat.le_of_eq hg.symm)) hb); have n1_ := aM (Kd.V_below (Kd.V_elderB (Kd.V_up HO_2.out) gb180 (Nat.le_of_eq hg.symm)) hb); have n2_ := aM (blk_below (kU BK162.out) hb); have n3_ := aM (below_step (bU HB.out) hb); have n4_ := aM (hbox); have n5_ := aM ((by rw [hg]; exact (below_size (bU HB.out)) : w.heap.size ≤ gb180)); have n6_ := aM ((by rw [hg]; exact (below_size (bU HB.out)) : w.heap.size ≤ gb180)); have n7_ := aM ((by rw [hg]; exact Nat.ne_of_lt (blk_lt (kU BK162.out)) : gb162 ≠ gb180)); have n8_ := aM ((by rw [hg]; exact Nat.ne_of_gt (blk_lt (kU BK162.out)) : gb180 ≠ gb162)); clear HO_1; clear HO_2; clear BK162; clear HB; have HO_1 := n0_; have HO_2 := n1_; have BK162 := n2_; have HB := n3_; have BK180 := n4_; have GW180 := n5_; have GE180 := n6_; have NB162_180 := n7_; have NB180_162 := n8_; clear n0_ n1_ n2_ n3_ n4_ n5_ n6_ n7_ n8_; clear hb hbox hg; have hnb28 := NB180_162.out; have hnc28 := NB162_180.out; obtain ⟨hcz29_0, hcz29_1, hcz29_2, hfz29_0, hfz29_1, hfz29_2⟩ := cz3 BK180.out; obtain ⟨Ao30, co30, eo30⟩ := Kd.V_slice HO_2.out; subst eo30) | ((with_reducible refine gate_callee (f := 70) rfl ?_); refine goesLq (some 51) rfl rfl Tryd.func70 #[.slice Ao30 x2_14.length co30] rfl ?_; (with_reducible refine (insolvencyref1_text.calls kj14 _ _ x2_14 t181 _ ?side1 ?side2 A24.out).mono ?_); (case side1 => refine (Kd.V_reads' (e := 86) (base := w.heap.size) (ok := fun k_ => ((((P1_ k_ ∨ P2_ k_) ∨ w.heap.size ≤ k_) ∧ k_ ≠ gb162) ∧ k_ ≠ gb180)) (n := x2_14.length) (c := co30) ?_).2.2; exact (Kd.V_up ((Kd.V_mono (Kd.V_far (p := ⟨gb180, 2, none⟩) (Kd.V_far (p := ⟨gb180, 1, none⟩) (Kd.V_far (p := ⟨gb180, 0, none⟩) (Kd.V_mono HO_2.out (fun k_ hk => (⟨hk, hk.2⟩ : _ ∧ k_ ≠ gb180))) (fun _ hk => hk.2) (.bool a0)) (fun _ hk => hk.2) (.string t179)) (fun _ hk => hk.2) (.string (⟨#[]⟩ : ByteArray))) (fun _ h_ => h_.1))))); (case side2 => exact (Kd.V_reads' HO_2.out).2.1); rintro e w31 ⟨rfl, hb⟩; refine ⟨_, rfl, ?_⟩; have n0_ := aM (Kd.V_below (Kd.V_up ((Kd.V_mono (Kd.V_far (p := ⟨gb180, 2, none⟩) (Kd.V_far (p := ⟨gb180, 1, none⟩) (Kd.V_far (p := ⟨gb180, 0, none⟩) (Kd.V_mono HO_1.out (fun k_ hk => (⟨hk, hk.2⟩ : _ ∧ k_ ≠ gb180))) (fun _ hk => hk.2) (.bool a0)) (fun _ hk => hk.2) (.string t179)) (fun _ hk => hk.2) (.string (⟨#[]⟩ : ByteArray))) (fun _ h_ => h_.1)))) hb); have n1_ := aM (Kd.V_below (Kd.V_up ((Kd.V_mono (Kd.V_far (p := ⟨gb180, 2, none⟩) (Kd.V_far (p := ⟨gb180, 1, none⟩) (Kd.V_far (p := ⟨gb180, 0, none⟩) (Kd.V_mono HO_2.out (fun k_ hk => (⟨hk, hk.2⟩ : _ ∧ k_ ≠ gb180))) (fun _ hk => hk.2) (.bool a0)) (fun _ hk => hk.2) (.string t179)) (fun _ hk => hk.2) (.string (⟨#[]⟩ : ByteArray))) (fun _ h_ => h_.1)))) hb); have n2_ := aM (blk_below (g := gb162) (o := .cells #[.bool false, .string (⟨#[]⟩ : ByteArray), .string (⟨#[]⟩ : ByteArray)] 33 (0, 0)) (kP BK162.out) hb); have n3_ := aM (blk_below (g := gb180) (o := .cells #[.bool a0, .string t179, .string (⟨#[]⟩ : ByteArray)] 33 (0, 0)) (kP BK180.out) hb); have n4_ := aM (below_step (bU HB.out) hb); clear HO_1; clear HO_2; clear BK162; clear BK180; clear HB; have HO_1 := n0_; have HO_2 := n1_; have BK162 := n2_; have BK180 := n3_; have HB := n4_; clear n0_ n1_ n2_ n3_ n4_; (try clear hb); (try clear hb2); (try clear hk); (try clear hi); obtain ⟨hcz32_0, hcz32_1, hcz32_2, hfz32_0, hfz32_1, hfz32_2⟩ := cz3 BK180.out; obtain ⟨hcz33_0, hcz33_1, hcz33_2, hfz33_0, hfz33_1, hfz33_2⟩ := cz3 BK162.out))
       refine bodyPost_ret (results_cell_row rfl _ _ gb162 33 #[.bool a0, .string t179, .string t181] (0, 0) _ rfl (kP BK162.out) Tryd.underlying33 rfl (by kernel_rfl)) rfl ?_
       exact ⟨by first | rfl | (simp [errW_none, errW_some] <;> rfl) | (simp [*, errW_none, errW_some] <;> rfl), bU HB.out⟩
      ·rw [if_neg c23] at H
       have c23b0 : decide (1 < (x2_14.length : Int)) = false := decide_eq_false c23
       have c23b1 : decide (1 < x2_14.length) = false := decide_eq_false (by omega)
       clear c23
       by_cases c34 : 0 < (x2_14.length : Int)
       ·rw [if_pos c34] at H
        have c34b0 := decide_eq_true c34
        have c34b1 : decide (0 < x2_14.length) = true := decide_eq_true (by omega)
        clear c34
        by_cases c35 : (rd x2_14 0) > 1
        ·rw [if_pos c35] at H
         have c35b0 : decide (1 < (rd x2_14 0)) = true := decide_eq_true c35
         clear c35
         replace H := bE H
         obtain ⟨t183, A360, H⟩ := H
         replace H : (some (a0, t179, t183)) = some (r1, r2, r3) := H
         have A36 := Aside0.mk A360
         clear A360
         simp only [Option.some.injEq, Prod.mk.injEq] at H
         obtain ⟨rfl, rfl, rfl⟩ := H
         obtain ⟨Ao37, co37, eo37⟩ := Kd.V_slice HO_1.out
         subst eo37
         go_wp2_with (first | ((with_reducible refine gate_callee (f := 70) rfl ?_); refine goesLq (some 39) rfl rfl Tryd.func70 #[.slice Ao37 x1_14.length co37] rfl ?_; (with_reducible refine (insolvencyref1_text.calls kj14 _ _ x1_14 t179 _ ?side1 ?side2 A22.out).mono ?_); (case side1 => exact Kd.C_up (Kd.V_reads' HO_1.out).2.2); (case side2 => exact (Kd.V_reads' HO_1.out).2.1); rintro e w38 ⟨rfl, hb⟩; refine ⟨_, rfl, ?_⟩; have n0_ := aM (Kd.V_below (Kd.V_up HO_1.out) hb); have n1_ := aM (Kd.V_below (Kd.V_up HO_2.out) hb); have n2_ := aM (blk_below (kU BK162.out) hb); have n3_ := aM (below_step (bU HB.out) hb); clear HO_1; clear HO_2; clear BK162; clear HB; have HO_1 := n0_; have HO_2 := n1_; have BK162 := n2_; have HB := n3_; clear n0_ n1_ n2_ n3_; (try clear hb); (try clear hb2); (try clear hk); (try clear hi)) | ((with_reducible refine gate_dst (N := 8) rfl ?_); refine box_event ?hg (N := 8) ?hd (cs := #[.bool false, .string (⟨#[]⟩ : ByteArray), .string (⟨#[]⟩ : ByteArray)]) (t := 33) ?hr ?_; (case hd => rfl); (case hg => rfl); (case hr => first | (go_simp; done) | (go_simp; rfl)); intro gb180 hg w39 hbox hb; have n0_ := aM (Kd.V_below (Kd.V_elderB (Kd.V_up HO_1.out) gb180 (Nat.le_of_eq hg.symm)) hb); have n1_ := aM (Kd.V_below (Kd.V_elderB (Kd.V_up HO_2.out) gb180 (Nat.le_of_eq hg.symm)) hb); have n2_ := aM (blk_below (kU BK162.out) hb); have n3_ := aM (below_step (bU HB.out) hb); have n4_ := aM (hbox); have n5_ := aM ((by rw [hg]; exact (below_size (bU HB.out)) : w.heap.size ≤ gb180)); have n6_ := aM ((by rw [hg]; exact (below_size (bU HB.out)) : w.heap.size ≤ gb180)); have n7_ := aM ((by rw [hg]; exact Nat.ne_of_lt (blk_lt (kU BK162.out)) : gb162 ≠ gb180)); have n8_ := aM ((by rw [hg]; exact Nat.ne_of_gt (blk_lt (kU BK162.out)) : gb180 ≠ gb162)); clear HO_1; clear HO_2; clear BK162; clear HB; have HO_1 := n0_; have HO_2 := n1_; have BK162 := n2_; have HB := n3_; have BK180 := n4_; have GW180 := n5_; have GE180 := n6_; have NB162_180 := n7_; have NB180_162 := n8_; clear n0_ n1_ n2_ n3_ n4_ n5_ n6_ n7_ n8_; clear hb hbox hg; have hnb40 := NB180_162.out; have hnc40 := NB162_180.out; obtain ⟨hcz41_0, hcz41_1, hcz41_2, hfz41_0, hfz41_1, hfz41_2⟩ := cz3 BK180.out; obtain ⟨Ao42, co42, eo42⟩ := Kd.V_slice HO_2.out; subst eo42; have p182 : 0 ≤ (0 : Int) := (by omega); have q182 : 0 < (x2_14.length : Int) := oD; obtain ⟨ad182, e182, hx182_0⟩ := Kd.at_int (Kd.V_reads' HO_2.out).2.2 0 p182 q182; cases e182; have qi182 : (0 < x2_14.length) = True := eq_true (by omega); (try rw [show ((0 : Int)).toNat = 0 from rfl] at hx182_0); (try rw [Addr.add_zero'] at hx182_0); have hn182_0 : ad182.block ≠ gb180 := Kd.V_blk_ne HO_2.out (fun _ hk => by first | exact hk.2 | exact hk.1.2 | exact hk.1.1.2) (by omega); have hn182_1 : ad182.block ≠ gb180 := Kd.V_blk_ne HO_2.out (fun _ hk => by first | exact hk.2 | exact hk.1.2 | exact hk.1.1.2) (by omega); have hn182_2 : ad182.block ≠ gb180 := Kd.V_blk_ne HO_2.out (fun _ hk => by first | exact hk.2 | exact hk.1.2 | exact hk.1.1.2) (by omega); replace hx182_0 := (cell_far (p := ⟨gb180, 0, none⟩) (by first | (rw [add_block]; exact hn182_0) | (show (Addr.add _ _).block ≠ _; rw [add_block]; exact hn182_0) | exact hn182_0) (.bool a0)).trans hx182_0; replace hx182_0 := (cell_far (p := ⟨gb180, 1, none⟩) (by first | (rw [add_block]; exact hn182_1) | (show (Addr.add _ _).block ≠ _; rw [add_block]; exact hn182_1) | exact hn182_1) (.string t179)).trans hx182_0; replace hx182_0 := (cell_far (p := ⟨gb180, 2, none⟩) (by first | (rw [add_block]; exact hn182_2) | (show (Addr.add _ _).block ≠ _; rw [add_block]; exact hn182_2) | exact hn182_2) (.string (⟨#[]⟩ : ByteArray))).trans hx182_0; clear hn182_0; clear hn182_1; clear hn182_2; replace p182 := eq_true p182; replace q182 := eq_true q182) | ((with_reducible refine gate_callee (f := 70) rfl ?_); refine goesLq (some 51) rfl rfl Tryd.func70 #[.slice (some ad182) x2_14.length co42] rfl ?_; (with_reducible refine (insolvencyref1_text.calls kj14 _ _ x2_14 t183 _ ?side1 ?side2 A36.out).mono ?_); (case side1 => refine (Kd.V_reads' (e := 86) (base := w.heap.size) (ok := fun k_ => ((((P1_ k_ ∨ P2_ k_) ∨ w.heap.size ≤ k_) ∧ k_ ≠ gb162) ∧ k_ ≠ gb180)) (n := x2_14.length) (c := co42) ?_).2.2; exact (Kd.V_up ((Kd.V_mono (Kd.V_far (p := ⟨gb180, 2, none⟩) (Kd.V_far (p := ⟨gb180, 1, none⟩) (Kd.V_far (p := ⟨gb180, 0, none⟩) (Kd.V_mono HO_2.out (fun k_ hk => (⟨hk, hk.2⟩ : _ ∧ k_ ≠ gb180))) (fun _ hk => hk.2) (.bool a0)) (fun _ hk => hk.2) (.string t179)) (fun _ hk => hk.2) (.string (⟨#[]⟩ : ByteArray))) (fun _ h_ => h_.1))))); (case side2 => exact (Kd.V_reads' HO_2.out).2.1); rintro e w43 ⟨rfl, hb⟩; refine ⟨_, rfl, ?_⟩; have n0_ := aM (Kd.V_below (Kd.V_up ((Kd.V_mono (Kd.V_far (p := ⟨gb180, 2, none⟩) (Kd.V_far (p := ⟨gb180, 1, none⟩) (Kd.V_far (p := ⟨gb180, 0, none⟩) (Kd.V_mono HO_1.out (fun k_ hk => (⟨hk, hk.2⟩ : _ ∧ k_ ≠ gb180))) (fun _ hk => hk.2) (.bool a0)) (fun _ hk => hk.2) (.string t179)) (fun _ hk => hk.2) (.string (⟨#[]⟩ : ByteArray))) (fun _ h_ => h_.1)))) hb); have n1_ := aM (Kd.V_below (Kd.V_up ((Kd.V_mono (Kd.V_far (p := ⟨gb180, 2, none⟩) (Kd.V_far (p := ⟨gb180, 1, none⟩) (Kd.V_far (p := ⟨gb180, 0, none⟩) (Kd.V_mono HO_2.out (fun k_ hk => (⟨hk, hk.2⟩ : _ ∧ k_ ≠ gb180))) (fun _ hk => hk.2) (.bool a0)) (fun _ hk => hk.2) (.string t179)) (fun _ hk => hk.2) (.string (⟨#[]⟩ : ByteArray))) (fun _ h_ => h_.1)))) hb); have n2_ := aM (blk_below (g := gb162) (o := .cells #[.bool false, .string (⟨#[]⟩ : ByteArray), .string (⟨#[]⟩ : ByteArray)] 33 (0, 0)) (kP BK162.out) hb); have n3_ := aM (blk_below (g := gb180) (o := .cells #[.bool a0, .string t179, .string (⟨#[]⟩ : ByteArray)] 33 (0, 0)) (kP BK180.out) hb); have n4_ := aM (below_step (bU HB.out) hb); clear HO_1; clear HO_2; clear BK162; clear BK180; clear HB; have HO_1 := n0_; have HO_2 := n1_; have BK162 := n2_; have BK180 := n3_; have HB := n4_; clear n0_ n1_ n2_ n3_ n4_; (try clear hb); (try clear hb2); (try clear hk); (try clear hi); obtain ⟨hcz44_0, hcz44_1, hcz44_2, hfz44_0, hfz44_1, hfz44_2⟩ := cz3 BK180.out; obtain ⟨hcz45_0, hcz45_1, hcz45_2, hfz45_0, hfz45_1, hfz45_2⟩ := cz3 BK162.out))
         refine bodyPost_ret (results_cell_row rfl _ _ gb162 33 #[.bool a0, .string t179, .string t183] (0, 0) _ rfl (kP BK162.out) Tryd.underlying33 rfl (by kernel_rfl)) rfl ?_
         exact ⟨by first | rfl | (simp [errW_none, errW_some] <;> rfl) | (simp [*, errW_none, errW_some] <;> rfl), bU HB.out⟩
        ·rw [if_neg c35] at H
         have c35b0 : decide (1 < (rd x2_14 0)) = false := decide_eq_false c35
         clear c35
         simp only [Option.some.injEq, Prod.mk.injEq] at H
         obtain ⟨rfl, rfl, rfl⟩ := H
         obtain ⟨Ao46, co46, eo46⟩ := Kd.V_slice HO_1.out
         subst eo46
         go_wp2_with (first | ((with_reducible refine gate_callee (f := 70) rfl ?_); refine goesLq (some 39) rfl rfl Tryd.func70 #[.slice Ao46 x1_14.length co46] rfl ?_; (with_reducible refine (insolvencyref1_text.calls kj14 _ _ x1_14 t179 _ ?side1 ?side2 A22.out).mono ?_); (case side1 => exact Kd.C_up (Kd.V_reads' HO_1.out).2.2); (case side2 => exact (Kd.V_reads' HO_1.out).2.1); rintro e w47 ⟨rfl, hb⟩; refine ⟨_, rfl, ?_⟩; have n0_ := aM (Kd.V_below (Kd.V_up HO_1.out) hb); have n1_ := aM (Kd.V_below (Kd.V_up HO_2.out) hb); have n2_ := aM (blk_below (kU BK162.out) hb); have n3_ := aM (below_step (bU HB.out) hb); clear HO_1; clear HO_2; clear BK162; clear HB; have HO_1 := n0_; have HO_2 := n1_; have BK162 := n2_; have HB := n3_; clear n0_ n1_ n2_ n3_; (try clear hb); (try clear hb2); (try clear hk); (try clear hi)) | ((with_reducible refine gate_dst (N := 8) rfl ?_); refine box_event ?hg (N := 8) ?hd (cs := #[.bool false, .string (⟨#[]⟩ : ByteArray), .string (⟨#[]⟩ : ByteArray)]) (t := 33) ?hr ?_; (case hd => rfl); (case hg => rfl); (case hr => first | (go_simp; done) | (go_simp; rfl)); intro gb180 hg w48 hbox hb; have n0_ := aM (Kd.V_below (Kd.V_elderB (Kd.V_up HO_1.out) gb180 (Nat.le_of_eq hg.symm)) hb); have n1_ := aM (Kd.V_below (Kd.V_elderB (Kd.V_up HO_2.out) gb180 (Nat.le_of_eq hg.symm)) hb); have n2_ := aM (blk_below (kU BK162.out) hb); have n3_ := aM (below_step (bU HB.out) hb); have n4_ := aM (hbox); have n5_ := aM ((by rw [hg]; exact (below_size (bU HB.out)) : w.heap.size ≤ gb180)); have n6_ := aM ((by rw [hg]; exact (below_size (bU HB.out)) : w.heap.size ≤ gb180)); have n7_ := aM ((by rw [hg]; exact Nat.ne_of_lt (blk_lt (kU BK162.out)) : gb162 ≠ gb180)); have n8_ := aM ((by rw [hg]; exact Nat.ne_of_gt (blk_lt (kU BK162.out)) : gb180 ≠ gb162)); clear HO_1; clear HO_2; clear BK162; clear HB; have HO_1 := n0_; have HO_2 := n1_; have BK162 := n2_; have HB := n3_; have BK180 := n4_; have GW180 := n5_; have GE180 := n6_; have NB162_180 := n7_; have NB180_162 := n8_; clear n0_ n1_ n2_ n3_ n4_ n5_ n6_ n7_ n8_; clear hb hbox hg; have hnb49 := NB180_162.out; have hnc49 := NB162_180.out; obtain ⟨hcz50_0, hcz50_1, hcz50_2, hfz50_0, hfz50_1, hfz50_2⟩ := cz3 BK180.out; obtain ⟨Ao51, co51, eo51⟩ := Kd.V_slice HO_2.out; subst eo51; have p182 : 0 ≤ (0 : Int) := (by omega); have q182 : 0 < (x2_14.length : Int) := oD; obtain ⟨ad182, e182, hx182_0⟩ := Kd.at_int (Kd.V_reads' HO_2.out).2.2 0 p182 q182; cases e182; have qi182 : (0 < x2_14.length) = True := eq_true (by omega); (try rw [show ((0 : Int)).toNat = 0 from rfl] at hx182_0); (try rw [Addr.add_zero'] at hx182_0); have hn182_0 : ad182.block ≠ gb180 := Kd.V_blk_ne HO_2.out (fun _ hk => by first | exact hk.2 | exact hk.1.2 | exact hk.1.1.2) (by omega); have hn182_1 : ad182.block ≠ gb180 := Kd.V_blk_ne HO_2.out (fun _ hk => by first | exact hk.2 | exact hk.1.2 | exact hk.1.1.2) (by omega); have hn182_2 : ad182.block ≠ gb180 := Kd.V_blk_ne HO_2.out (fun _ hk => by first | exact hk.2 | exact hk.1.2 | exact hk.1.1.2) (by omega); replace hx182_0 := (cell_far (p := ⟨gb180, 0, none⟩) (by first | (rw [add_block]; exact hn182_0) | (show (Addr.add _ _).block ≠ _; rw [add_block]; exact hn182_0) | exact hn182_0) (.bool a0)).trans hx182_0; replace hx182_0 := (cell_far (p := ⟨gb180, 1, none⟩) (by first | (rw [add_block]; exact hn182_1) | (show (Addr.add _ _).block ≠ _; rw [add_block]; exact hn182_1) | exact hn182_1) (.string t179)).trans hx182_0; replace hx182_0 := (cell_far (p := ⟨gb180, 2, none⟩) (by first | (rw [add_block]; exact hn182_2) | (show (Addr.add _ _).block ≠ _; rw [add_block]; exact hn182_2) | exact hn182_2) (.string (⟨#[]⟩ : ByteArray))).trans hx182_0; clear hn182_0; clear hn182_1; clear hn182_2; replace p182 := eq_true p182; replace q182 := eq_true q182; obtain ⟨hcz52_0, hcz52_1, hcz52_2, hfz52_0, hfz52_1, hfz52_2⟩ := cz3 BK162.out))
         refine bodyPost_ret (results_cell_row rfl _ _ gb162 33 #[.bool a0, .string t179, .string (⟨#[]⟩ : ByteArray)] (0, 0) _ rfl (kP BK162.out) Tryd.underlying33 rfl (by kernel_rfl)) rfl ?_
         exact ⟨by first | rfl | (simp [errW_none, errW_some] <;> rfl) | (simp [*, errW_none, errW_some] <;> rfl), bU HB.out⟩
       ·rw [if_neg c34] at H
        exact absurd H (by simp)

/-! ### insolvencyref1_Make: function 46 -/
def insolvencyref1_Make.f (k : Nat) (a0 : Bool) (a1 : ByteArray) (a2 : ByteArray) : Option (Bool × ByteArray × ByteArray × Bool) := (insolvencyref1_limbs.f k a2).bind fun t185 => (if (t185.length : Int) = 0 then (some (false, (⟨#[]⟩ : ByteArray), (⟨#[]⟩ : ByteArray), false)) else ((insolvencyref1_limbs.f k a1).bind fun t188 => ((insolvencyref1_reduced.f k a0 t188 t185).bind fun bt191 => (some (bt191.1, bt191.2.1, bt191.2.2, true)))))
theorem insolvencyref1_Make.mono : ∀ a0 a1 a2 k, LeO (insolvencyref1_Make.f k a0 a1 a2) (insolvencyref1_Make.f (k + 1) a0 a1 a2) := by
 intro a0 a1 a2 k
 unfold insolvencyref1_Make.f
 repeat' first
   | (with_reducible exact insolvencyref1_limbs.mono _ _)
   | (with_reducible exact insolvencyref1_reduced.mono _ _ _ _)
   | (with_reducible exact LeO.refl _)
   | (with_reducible exact LeO.none _)
   | (with_reducible refine LeO.ite ?_ ?_)
   | (with_reducible refine LeO.bind ?_ (fun _ => ?_))
   | exact LeO.none _
   | refine LeO.ite ?_ ?_
   | refine LeO.bind ?_ (fun _ => ?_)
set_option maxHeartbeats 8000000 in
set_option maxRecDepth 100000 in
theorem insolvencyref1_Make.calls (k : Nat) (a0 : Bool) (a1 : ByteArray) (a2 : ByteArray) (r1 : Bool) (r2 : ByteArray) (r3 : ByteArray) (r4 : Bool) (w : World) (h : insolvencyref1_Make.f k a0 a1 a2 = some (r1, r2, r3, r4)) :
  Calls Tryd.prog 46 #[.bool a0, .string a1, .string a2] w fun e w' => e = .returned (.tuple #[.agg #[.bool r1, .string r2, .string r3], .bool r4]) ∧ Below w.heap.size w w' := by
 have hu33 := Tryd.underlying33
 have HB := aM (Below.refl w.heap.size w)
 have H : ((insolvencyref1_limbs.f k a2).bind fun t185 => (if (t185.length : Int) = 0 then (some (false, (⟨#[]⟩ : ByteArray), (⟨#[]⟩ : ByteArray), false)) else ((insolvencyref1_limbs.f k a1).bind fun t188 => ((insolvencyref1_reduced.f k a0 t188 t185).bind fun bt191 => (some (bt191.1, bt191.2.1, bt191.2.2, true)))))) = some (r1, r2, r3, r4) := h
 clear h
 replace H := bE H
 obtain ⟨t185, A40, H⟩ := H
 replace H : (if (t185.length : Int) = 0 then (some (false, (⟨#[]⟩ : ByteArray), (⟨#[]⟩ : ByteArray), false)) else ((insolvencyref1_limbs.f k a1).bind fun t188 => ((insolvencyref1_reduced.f k a0 t188 t185).bind fun bt191 => (some (bt191.1, bt191.2.1, bt191.2.2, true))))) = some (r1, r2, r3, r4) := H
 have A4 := Aside0.mk A40
 clear A40
 by_cases c5 : (t185.length : Int) = 0
 ·rw [if_pos c5] at H
  have c5b0 : ((t185.length : Int) == 0) = true := beq_iff_eq.mpr c5
  have c5b1 : ((t185.length : Int) != 0) = false := bne_eq_false_iff_eq.mpr c5
  clear c5
  simp only [Option.some.injEq, Prod.mk.injEq] at H
  obtain ⟨rfl, rfl, rfl, rfl⟩ := H
  go_enter Tryd.func46, Tryd.ntmps46
  go_wp2_with (first | ((with_reducible refine gate_dst (N := 6) rfl ?_); refine box_event ?hg (N := 6) ?hd (cs := #[.bool false, .string (⟨#[]⟩ : ByteArray), .string (⟨#[]⟩ : ByteArray)]) (t := 33) ?hr ?_; (case hd => rfl); (case hg => rfl); (case hr => first | (go_simp; done) | (go_simp; rfl)); intro gb184 hg w6 hbox hb; have n0_ := aM (below_step (bU HB.out) hb); have n1_ := aM (hbox); have n2_ := aM ((by rw [hg]; exact (below_size (bU HB.out)) : w.heap.size ≤ gb184)); have n3_ := aM ((by rw [hg]; exact (below_size (bU HB.out)) : w.heap.size ≤ gb184)); clear HB; have HB := n0_; have BK184 := n1_; have GW184 := n2_; have GE184 := n3_; clear n0_ n1_ n2_ n3_; clear hb hbox hg) | ((with_reducible refine gate_callee (f := 65) rfl ?_); refine goesLq (some 10) rfl rfl Tryd.func65 #[.string a2] rfl ?_; (with_reducible refine (insolvencyref1_limbs.calls k a2 t185 _ A4.out).mono ?_); rintro e w7 ⟨v186, rfl, ho0, hb⟩; refine ⟨_, rfl, ?_⟩; have n0_ := aM (Kd.R_lower ho0 (below_size (bU HB.out))); have n1_ := aM (blk_below (kU BK184.out) hb); have n2_ := aM (below_step (bU HB.out) hb); clear BK184; clear HB; have HO187 := n0_; have BK184 := n1_; have HB := n2_; clear n0_ n1_ n2_; (try clear hb); (try clear hb2); (try clear hk); (try clear hi); (try clear ho0); obtain ⟨Ao8, co8, eo8⟩ := Kd.R_slice HO187.out; subst eo8; obtain ⟨hcz9_0, hcz9_1, hcz9_2, hfz9_0, hfz9_1, hfz9_2⟩ := cz3 BK184.out))
  refine bodyPost_ret (results_ct rfl _ _ gb184 33 #[.bool false, .string (⟨#[]⟩ : ByteArray), .string (⟨#[]⟩ : ByteArray)] (0, 0) _ rfl (kP BK184.out) Tryd.underlying33 rfl (by kernel_rfl)) rfl ?_
  exact ⟨by first | rfl | (simp [errW_none, errW_some] <;> rfl) | (simp [*, errW_none, errW_some] <;> rfl), bU HB.out⟩
 ·rw [if_neg c5] at H
  have c5b0 : ((t185.length : Int) == 0) = false := beq_eq_false_iff_ne.mpr c5
  have c5b1 : ((t185.length : Int) != 0) = true := bne_iff_ne.mpr c5
  have c5b2 : ¬ (t185 = []) := fun h_ => c5 (by rw [h_]; rfl)
  replace H := bE H
  obtain ⟨t188, A100, H⟩ := H
  replace H : ((insolvencyref1_reduced.f k a0 t188 t185).bind fun bt191 => (some (bt191.1, bt191.2.1, bt191.2.2, true))) = some (r1, r2, r3, r4) := H
  have A10 := Aside0.mk A100
  clear A100
  replace H := bE H
  obtain ⟨⟨t191, t192, t193⟩, A110, H⟩ := H
  replace H : (some (t191, t192, t193, true)) = some (r1, r2, r3, r4) := H
  have A11 := Aside0.mk A110
  clear A110
  simp only [Option.some.injEq, Prod.mk.injEq] at H
  obtain ⟨rfl, rfl, rfl, rfl⟩ := H
  go_enter Tryd.func46, Tryd.ntmps46
  go_wp2_with (first | ((with_reducible refine gate_dst (N := 6) rfl ?_); refine box_event ?hg (N := 6) ?hd (cs := #[.bool false, .string (⟨#[]⟩ : ByteArray), .string (⟨#[]⟩ : ByteArray)]) (t := 33) ?hr ?_; (case hd => rfl); (case hg => rfl); (case hr => first | (go_simp; done) | (go_simp; rfl)); intro gb184 hg w12 hbox hb; have n0_ := aM (below_step (bU HB.out) hb); have n1_ := aM (hbox); have n2_ := aM ((by rw [hg]; exact (below_size (bU HB.out)) : w.heap.size ≤ gb184)); have n3_ := aM ((by rw [hg]; exact (below_size (bU HB.out)) : w.heap.size ≤ gb184)); clear HB; have HB := n0_; have BK184 := n1_; have GW184 := n2_; have GE184 := n3_; clear n0_ n1_ n2_ n3_; clear hb hbox hg) | ((with_reducible refine gate_callee (f := 65) rfl ?_); refine goesLq (some 10) rfl rfl Tryd.func65 #[.string a2] rfl ?_; (with_reducible refine (insolvencyref1_limbs.calls k a2 t185 _ A4.out).mono ?_); rintro e w13 ⟨v186, rfl, ho0, hb⟩; refine ⟨_, rfl, ?_⟩; have n0_ := aM (Kd.R_lower ho0 (below_size (bU HB.out))); have n1_ := aM (blk_below (kU BK184.out) hb); have n2_ := aM (below_step (bU HB.out) hb); clear BK184; clear HB; have HO187 := n0_; have BK184 := n1_; have HB := n2_; clear n0_ n1_ n2_; (try clear hb); (try clear hb2); (try clear hk); (try clear hi); (try clear ho0); obtain ⟨Ao14, co14, eo14⟩ := Kd.R_slice HO187.out; subst eo14) | ((with_reducible refine gate_callee (f := 65) rfl ?_); refine goesLq (some 17) rfl rfl Tryd.func65 #[.string a1] rfl ?_; (with_reducible refine (insolvencyref1_limbs.calls k a1 t188 _ A10.out).mono ?_); rintro e w15 ⟨v189, rfl, ho0, hb⟩; refine ⟨_, rfl, ?_⟩; have n0_ := aM (Kd.R_elder' (Kd.R_up HO187.out) (Kd.R_base ho0) hb); have n1_ := aM (Kd.R_lower (Kd.R_new' ho0 (Kd.R_lt (Kd.R_up HO187.out))) (below_size (bU HB.out))); have n2_ := aM (blk_below (kU BK184.out) hb); have n3_ := aM (below_step (bU HB.out) hb); clear HO187; clear BK184; clear HB; have HO187 := n0_; have HO190 := n1_; have BK184 := n2_; have HB := n3_; clear n0_ n1_ n2_ n3_; (try clear hb); (try clear hb2); (try clear hk); (try clear hi); (try clear ho0); obtain ⟨Ao16, co16, eo16⟩ := Kd.R_slice HO190.out; subst eo16) | ((with_reducible refine gate_callee (f := 66) rfl ?_); refine goesLq (some 19) rfl rfl Tryd.func66 #[.bool a0, .slice Ao16 t188.length co16, .slice Ao14 t185.length co14] rfl ?_; (with_reducible refine (insolvencyref1_reduced.calls k a0 (fun k_ => some k_ = (.slice Ao16 t188.length co16 : Value).ownBlock) _ _ t188 (fun k_ => some k_ = (.slice Ao14 t185.length co14 : Value).ownBlock) _ _ t185 t191 t192 t193 _ ?side1 ?side2 A11.out).mono ?_); (case side1 => exact Kd.R_V (Kd.R_tight rfl (Kd.R_types (HO190.out) BK184.out (by decide)))); (case side2 => exact Kd.R_V (Kd.R_tight rfl (Kd.R_types (HO187.out) BK184.out (by decide)))); rintro e w17 ⟨rfl, hb⟩; refine ⟨_, rfl, ?_⟩; have n0_ := aM (Kd.R_below (Kd.R_up HO187.out) hb); have n1_ := aM (Kd.R_below (Kd.R_up HO190.out) hb); have n2_ := aM (blk_below (kU BK184.out) hb); have n3_ := aM (below_step (bU HB.out) hb); clear HO187; clear HO190; clear BK184; clear HB; have HO187 := n0_; have HO190 := n1_; have BK184 := n2_; have HB := n3_; clear n0_ n1_ n2_ n3_; (try clear hb); (try clear hb2); (try clear hk); (try clear hi); obtain ⟨hcz18_0, hcz18_1, hcz18_2, hfz18_0, hfz18_1, hfz18_2⟩ := cz3 BK184.out))
  refine bodyPost_ret (results_ct rfl _ _ gb184 33 #[.bool t191, .string t192, .string t193] (0, 0) _ rfl (kP BK184.out) Tryd.underlying33 rfl (by kernel_rfl)) rfl ?_
  exact ⟨by first | rfl | (simp [errW_none, errW_some] <;> rfl) | (simp [*, errW_none, errW_some] <;> rfl), bU HB.out⟩

/-! ### insolvencyref1_FromUint: function 47 -/
def insolvencyref1_FromUint.f (k : Nat) (a0 : Int) : Option (ByteArray) := (insolvencyref1_text.f k (([(a0) % 4294967296, (a0 / 4294967296) % 4294967296] : List Int))).bind fun t197 => (some t197)
theorem insolvencyref1_FromUint.mono : ∀ a0 k, LeO (insolvencyref1_FromUint.f k a0) (insolvencyref1_FromUint.f (k + 1) a0) := by
 intro a0 k
 unfold insolvencyref1_FromUint.f
 repeat' first
   | (with_reducible exact insolvencyref1_text.mono _ _)
   | (with_reducible exact LeO.refl _)
   | (with_reducible exact LeO.none _)
   | (with_reducible refine LeO.ite ?_ ?_)
   | (with_reducible refine LeO.bind ?_ (fun _ => ?_))
   | exact LeO.none _
   | refine LeO.ite ?_ ?_
   | refine LeO.bind ?_ (fun _ => ?_)
set_option maxHeartbeats 8000000 in
set_option maxRecDepth 100000 in
theorem insolvencyref1_FromUint.calls (k : Nat) (a0 : Int) (r : ByteArray) (w : World) (h : insolvencyref1_FromUint.f k a0 = some r) :
  Calls Tryd.prog 47 #[.int .u64 a0] w fun e w' => e = .returned (.string r) ∧ Below w.heap.size w w' := by
 have HB := aM (Below.refl w.heap.size w)
 have H : ((insolvencyref1_text.f k (([(a0) % 4294967296, (a0 / 4294967296) % 4294967296] : List Int))).bind fun t197 => (some t197)) = some r := h
 clear h
 obtain ⟨y194, hy194⟩ : ∃ y_ : List Int, y_ = (([(a0) % 4294967296, (a0 / 4294967296) % 4294967296] : List Int)) := ⟨_, rfl⟩
 replace H : ((insolvencyref1_text.f k y194).bind fun t197 => (some t197)) = some r := by first | (rw [hy194]; with_reducible exact H) | (have H2_ := (Option.bind_some _ _).symm.trans H; rw [hy194]; with_reducible exact H2_) | (have H2_ := (Option.bind_some _ _).symm.trans H; with_reducible exact H2_) | with_reducible exact H | (rw [hy194]; exact H) | exact H
 have Ny194 := Aside0.mk hy194
 clear hy194
 replace H := bE H
 obtain ⟨t197, A20, H⟩ := H
 replace H : (some t197) = some r := H
 have A2 := Aside0.mk A20
 clear A20
 obtain rfl := Option.some.inj H
 go_enter Tryd.func47, Tryd.ntmps47
 go_wp2_with (first | ((with_reducible refine gate_dst (N := 8) rfl ?_); refine Kd.R_lit (Kd.int .u32) _ 86 ?hg (N := 8) ?hd (xs := ([(a0) % 4294967296, (a0 / 4294967296) % 4294967296] : List Int)) (inner := [.int .u32 ((a0) % 4294967296), .int .u32 ((a0 / 4294967296) % 4294967296)]) (ok := fun _ => True) (okp := fun _ => True) ?hr ?hp (fun _ hk => hk) trivial (Below.refl _ _) (Nat.le_refl _) (by simp) ?_; (case hd => rfl); (case hg => rfl); (case hr => first | (go_simp; done) | (go_simp; rfl)); (case hp => exact (Reps.one (show Kd.M (Kd.int .u32) _ _ _ ((a0) % 4294967296) [.int .u32 ((a0) % 4294967296)] from rfl) (Reps.one (show Kd.M (Kd.int .u32) _ _ _ ((a0 / 4294967296) % 4294967296) [.int .u32 ((a0 / 4294967296) % 4294967296)] from rfl) (Reps.none _ _)))); intro v195 w3 ho4 hb hg_ hnew_; clear hg_ hnew_; (first | rw [← Ny194.out] at ho4 | (simp only [Int.reduceToNat] at ho4; rw [← Ny194.out] at ho4)); have n0_ := aM (Kd.R_lower ho4 (below_size (bU HB.out))); have n1_ := aM (below_step (bU HB.out) hb); clear HB; have HO196 := n0_; have HB := n1_; clear n0_ n1_; clear hb ho4; obtain ⟨Ao5, co5, eo5⟩ := Kd.R_slice HO196.out; subst eo5) | ((with_reducible refine gate_callee (f := 70) rfl ?_); refine goesLq (some 9) rfl rfl Tryd.func70 #[.slice Ao5 y194.length co5] rfl ?_; (with_reducible refine (insolvencyref1_text.calls k _ _ y194 t197 _ ?side1 ?side2 A2.out).mono ?_); (case side1 => exact Kd.C_up (Kd.R_reads' HO196.out).2.2); (case side2 => exact (Kd.R_reads' HO196.out).2.1); rintro e w6 ⟨rfl, hb⟩; refine ⟨_, rfl, ?_⟩; have n0_ := aM (Kd.R_below (Kd.R_up HO196.out) hb); have n1_ := aM (below_step (bU HB.out) hb); clear HO196; clear HB; have HO196 := n0_; have HB := n1_; clear n0_ n1_; (try clear hb); (try clear hb2); (try clear hk); (try clear hi)))
 go_ret
 exact ⟨by first | rfl | (simp [errW_none, errW_some] <;> rfl) | (simp [*, errW_none, errW_some] <;> rfl), bU HB.out⟩

/-! ### insolvencyref1_size: function 48 -/
def insolvencyref1_size.f (a0 : Int) : Option (Int) := if a0 < 0 then (some (IntKind.u64.wrap ((IntKind.u64.wrap (wrap64 (-(wrap64 (a0 + 1))))) + 1))) else (some (IntKind.u64.wrap (a0)))
set_option maxHeartbeats 8000000 in
set_option maxRecDepth 100000 in
theorem insolvencyref1_size.calls (a0 : Int) (r : Int) (w : World) (h : insolvencyref1_size.f a0 = some r) :
  Calls Tryd.prog 48 #[.int .i64 a0] w fun e w' => e = .returned (.int .u64 r) ∧ Drawn0 w w' := by
 have H : (if a0 < 0 then (some (IntKind.u64.wrap ((IntKind.u64.wrap (wrap64 (-(wrap64 (a0 + 1))))) + 1))) else (some (IntKind.u64.wrap (a0)))) = some r := h
 clear h
 by_cases c2 : a0 < 0
 ·rw [if_pos c2] at H
  have c2b0 := decide_eq_true c2
  clear c2
  obtain rfl := Option.some.inj H
  go_enter Tryd.func48, Tryd.ntmps48
  go_wp2
  go_ret
  exact ⟨by first | rfl | (simp; done) | (simp [*]; done), by repeat (first | exact Drawn0.refl _ | apply Drawn0.step)⟩
 ·rw [if_neg c2] at H
  have c2b0 := decide_eq_false c2
  clear c2
  obtain rfl := Option.some.inj H
  go_enter Tryd.func48, Tryd.ntmps48
  go_wp2
  go_ret
  exact ⟨by first | rfl | (simp; done) | (simp [*]; done), by repeat (first | exact Drawn0.refl _ | apply Drawn0.step)⟩

/-! ### insolvencyref1_Fraction: function 29 -/
def insolvencyref1_Fraction.f (k : Nat) (a0 : Int) (a1 : Int) : Option (Bool × ByteArray × ByteArray × Bool) := (insolvencyref1_size.f a0).bind fun t199 => ((insolvencyref1_FromUint.f k t199).bind fun t200 => ((insolvencyref1_size.f a1).bind fun t201 => ((insolvencyref1_FromUint.f k t201).bind fun t202 => ((insolvencyref1_Make.f k ((decide (a0 < 0)) != (decide (a1 < 0))) t200 t202).bind fun bt203 => (some (bt203.1, bt203.2.1, bt203.2.2.1, bt203.2.2.2))))))
theorem insolvencyref1_Fraction.mono : ∀ a0 a1 k, LeO (insolvencyref1_Fraction.f k a0 a1) (insolvencyref1_Fraction.f (k + 1) a0 a1) := by
 intro a0 a1 k
 unfold insolvencyref1_Fraction.f
 repeat' first
   | (with_reducible exact insolvencyref1_FromUint.mono _ _)
   | (with_reducible exact insolvencyref1_Make.mono _ _ _ _)
   | (with_reducible exact LeO.refl _)
   | (with_reducible exact LeO.none _)
   | (with_reducible refine LeO.ite ?_ ?_)
   | (with_reducible refine LeO.bind ?_ (fun _ => ?_))
   | exact LeO.none _
   | refine LeO.ite ?_ ?_
   | refine LeO.bind ?_ (fun _ => ?_)
set_option maxHeartbeats 8000000 in
set_option maxRecDepth 100000 in
theorem insolvencyref1_Fraction.calls (k : Nat) (a0 : Int) (a1 : Int) (r1 : Bool) (r2 : ByteArray) (r3 : ByteArray) (r4 : Bool) (w : World) (h : insolvencyref1_Fraction.f k a0 a1 = some (r1, r2, r3, r4)) :
  Calls Tryd.prog 29 #[.int .i64 a0, .int .i64 a1] w fun e w' => e = .returned (.tuple #[.agg #[.bool r1, .string r2, .string r3], .bool r4]) ∧ Below w.heap.size w w' := by
 have hu33 := Tryd.underlying33
 have HB := aM (Below.refl w.heap.size w)
 have H : ((insolvencyref1_size.f a0).bind fun t199 => ((insolvencyref1_FromUint.f k t199).bind fun t200 => ((insolvencyref1_size.f a1).bind fun t201 => ((insolvencyref1_FromUint.f k t201).bind fun t202 => ((insolvencyref1_Make.f k ((decide (a0 < 0)) != (decide (a1 < 0))) t200 t202).bind fun bt203 => (some (bt203.1, bt203.2.1, bt203.2.2.1, bt203.2.2.2))))))) = some (r1, r2, r3, r4) := h
 clear h
 replace H := bE H
 obtain ⟨t199, A30, H⟩ := H
 replace H : ((insolvencyref1_FromUint.f k t199).bind fun t200 => ((insolvencyref1_size.f a1).bind fun t201 => ((insolvencyref1_FromUint.f k t201).bind fun t202 => ((insolvencyref1_Make.f k ((decide (a0 < 0)) != (decide (a1 < 0))) t200 t202).bind fun bt203 => (some (bt203.1, bt203.2.1, bt203.2.2.1, bt203.2.2.2)))))) = some (r1, r2, r3, r4) := H
 have A3 := Aside0.mk A30
 clear A30
 replace H := bE H
 obtain ⟨t200, A40, H⟩ := H
 replace H : ((insolvencyref1_size.f a1).bind fun t201 => ((insolvencyref1_FromUint.f k t201).bind fun t202 => ((insolvencyref1_Make.f k ((decide (a0 < 0)) != (decide (a1 < 0))) t200 t202).bind fun bt203 => (some (bt203.1, bt203.2.1, bt203.2.2.1, bt203.2.2.2))))) = some (r1, r2, r3, r4) := H
 have A4 := Aside0.mk A40
 clear A40
 replace H := bE H
 obtain ⟨t201, A50, H⟩ := H
 replace H : ((insolvencyref1_FromUint.f k t201).bind fun t202 => ((insolvencyref1_Make.f k ((decide (a0 < 0)) != (decide (a1 < 0))) t200 t202).bind fun bt203 => (some (bt203.1, bt203.2.1, bt203.2.2.1, bt203.2.2.2)))) = some (r1, r2, r3, r4) := H
 have A5 := Aside0.mk A50
 clear A50
 replace H := bE H
 obtain ⟨t202, A60, H⟩ := H
 replace H : ((insolvencyref1_Make.f k ((decide (a0 < 0)) != (decide (a1 < 0))) t200 t202).bind fun bt203 => (some (bt203.1, bt203.2.1, bt203.2.2.1, bt203.2.2.2))) = some (r1, r2, r3, r4) := H
 have A6 := Aside0.mk A60
 clear A60
 replace H := bE H
 obtain ⟨⟨t203, t204, t205, t206⟩, A70, H⟩ := H
 replace H : (some (t203, t204, t205, t206)) = some (r1, r2, r3, r4) := H
 have A7 := Aside0.mk A70
 clear A70
 simp only [Option.some.injEq, Prod.mk.injEq] at H
 obtain ⟨rfl, rfl, rfl, rfl⟩ := H
 go_enter Tryd.func29, Tryd.ntmps29
 go_wp2_with (first | ((with_reducible refine gate_dst (N := 4) rfl ?_); refine box_event ?hg (N := 4) ?hd (cs := #[.bool false, .string (⟨#[]⟩ : ByteArray), .string (⟨#[]⟩ : ByteArray)]) (t := 33) ?hr ?_; (case hd => rfl); (case hg => rfl); (case hr => first | (go_simp; done) | (go_simp; rfl)); intro gb198 hg w8 hbox hb; have n0_ := aM (below_step (bU HB.out) hb); have n1_ := aM (hbox); have n2_ := aM ((by rw [hg]; exact (below_size (bU HB.out)) : w.heap.size ≤ gb198)); have n3_ := aM ((by rw [hg]; exact (below_size (bU HB.out)) : w.heap.size ≤ gb198)); clear HB; have HB := n0_; have BK198 := n1_; have GW198 := n2_; have GE198 := n3_; clear n0_ n1_ n2_ n3_; clear hb hbox hg) | ((with_reducible refine gate_callee (f := 48) rfl ?_); refine goesLq (some 12) rfl rfl Tryd.func48 #[.int .i64 a0] rfl ?_; (with_reducible refine (insolvencyref1_size.calls a0 t199 _ A3.out).mono ?_); rintro e w' ⟨rfl, ⟨nd, rfl⟩⟩; refine ⟨_, rfl, ?_⟩; (try (rw [drewN_self w8]; generalize hq_ : World.drewN w8 _ = w8; have n0_ : Aside0 (w8.heap[gb198]? = some (.cells #[.bool false, .string (⟨#[]⟩ : ByteArray), .string (⟨#[]⟩ : ByteArray)] 33 (0, 0))) := ⟨by rw [← hq_]; exact (kU BK198.out)⟩; have n1_ : Aside0 (Below w.heap.size w w8) := ⟨by rw [← hq_]; exact (bU HB.out)⟩; clear BK198 HB hq_; have BK198 := n0_; have HB := n1_; clear n0_ n1_))) | ((with_reducible refine gate_callee (f := 47) rfl ?_); refine goesLq (some 13) rfl rfl Tryd.func47 #[.int .u64 t199] rfl ?_; (with_reducible refine (insolvencyref1_FromUint.calls k t199 t200 _ A4.out).mono ?_); rintro e w9 ⟨rfl, hb⟩; refine ⟨_, rfl, ?_⟩; have n0_ := aM (blk_below (kU BK198.out) hb); have n1_ := aM (below_step (bU HB.out) hb); clear BK198; clear HB; have BK198 := n0_; have HB := n1_; clear n0_ n1_; (try clear hb); (try clear hb2); (try clear hk); (try clear hi)) | ((with_reducible refine gate_callee (f := 48) rfl ?_); refine goesLq (some 15) rfl rfl Tryd.func48 #[.int .i64 a1] rfl ?_; (with_reducible refine (insolvencyref1_size.calls a1 t201 _ A5.out).mono ?_); rintro e w' ⟨rfl, ⟨nd, rfl⟩⟩; refine ⟨_, rfl, ?_⟩; (try (rw [drewN_self w9]; generalize hq_ : World.drewN w9 _ = w9; have n0_ : Aside0 (w9.heap[gb198]? = some (.cells #[.bool false, .string (⟨#[]⟩ : ByteArray), .string (⟨#[]⟩ : ByteArray)] 33 (0, 0))) := ⟨by rw [← hq_]; exact (kU BK198.out)⟩; have n1_ : Aside0 (Below w.heap.size w w9) := ⟨by rw [← hq_]; exact (bU HB.out)⟩; clear BK198 HB hq_; have BK198 := n0_; have HB := n1_; clear n0_ n1_))) | ((with_reducible refine gate_callee (f := 47) rfl ?_); refine goesLq (some 16) rfl rfl Tryd.func47 #[.int .u64 t201] rfl ?_; (with_reducible refine (insolvencyref1_FromUint.calls k t201 t202 _ A6.out).mono ?_); rintro e w10 ⟨rfl, hb⟩; refine ⟨_, rfl, ?_⟩; have n0_ := aM (blk_below (kU BK198.out) hb); have n1_ := aM (below_step (bU HB.out) hb); clear BK198; clear HB; have BK198 := n0_; have HB := n1_; clear n0_ n1_; (try clear hb); (try clear hb2); (try clear hk); (try clear hi)) | ((with_reducible refine gate_callee (f := 46) rfl ?_); refine goesLq (some 17) rfl rfl Tryd.func46 #[.bool ((decide (a0 < 0)) != (decide (a1 < 0))), .string t200, .string t202] rfl ?_; (with_reducible refine (insolvencyref1_Make.calls k ((decide (a0 < 0)) != (decide (a1 < 0))) t200 t202 t203 t204 t205 t206 _ A7.out).mono ?_); rintro e w11 ⟨rfl, hb⟩; refine ⟨_, rfl, ?_⟩; have n0_ := aM (blk_below (kU BK198.out) hb); have n1_ := aM (below_step (bU HB.out) hb); clear BK198; clear HB; have BK198 := n0_; have HB := n1_; clear n0_ n1_; (try clear hb); (try clear hb2); (try clear hk); (try clear hi); obtain ⟨hcz12_0, hcz12_1, hcz12_2, hfz12_0, hfz12_1, hfz12_2⟩ := cz3 BK198.out))
 refine bodyPost_ret (results_ct rfl _ _ gb198 33 #[.bool t203, .string t204, .string t205] (0, 0) _ rfl (kP BK198.out) Tryd.underlying33 rfl (by kernel_rfl)) rfl ?_
 exact ⟨by first | rfl | (simp [errW_none, errW_some] <;> rfl) | (simp [*, errW_none, errW_some] <;> rfl), bU HB.out⟩

/-! ### insolvencylaw0_Ratio: function 13 -/
def insolvencylaw0_Ratio.f (k : Nat) (a0 : Int) (a1 : Int) : Option (Bool × ByteArray × ByteArray) := (insolvencyref1_Fraction.f k a0 a1).bind fun bt208 => (some (bt208.1, bt208.2.1, bt208.2.2.1))
theorem insolvencylaw0_Ratio.mono : ∀ a0 a1 k, LeO (insolvencylaw0_Ratio.f k a0 a1) (insolvencylaw0_Ratio.f (k + 1) a0 a1) := by
 intro a0 a1 k
 unfold insolvencylaw0_Ratio.f
 repeat' first
   | (with_reducible exact insolvencyref1_Fraction.mono _ _ _)
   | (with_reducible exact LeO.refl _)
   | (with_reducible exact LeO.none _)
   | (with_reducible refine LeO.ite ?_ ?_)
   | (with_reducible refine LeO.bind ?_ (fun _ => ?_))
   | exact LeO.none _
   | refine LeO.ite ?_ ?_
   | refine LeO.bind ?_ (fun _ => ?_)
set_option maxHeartbeats 8000000 in
set_option maxRecDepth 100000 in
theorem insolvencylaw0_Ratio.calls (k : Nat) (a0 : Int) (a1 : Int) (r1 : Bool) (r2 : ByteArray) (r3 : ByteArray) (w : World) (h : insolvencylaw0_Ratio.f k a0 a1 = some (r1, r2, r3)) :
  Calls Tryd.prog 13 #[.int .i64 a0, .int .i64 a1] w fun e w' => e = .returned (.agg #[.bool r1, .string r2, .string r3]) ∧ Below w.heap.size w w' := by
 have hu33 := Tryd.underlying33
 have HB := aM (Below.refl w.heap.size w)
 have H : ((insolvencyref1_Fraction.f k a0 a1).bind fun bt208 => (some (bt208.1, bt208.2.1, bt208.2.2.1))) = some (r1, r2, r3) := h
 clear h
 replace H := bE H
 obtain ⟨⟨t208, t209, t210, t211⟩, A30, H⟩ := H
 replace H : (some (t208, t209, t210)) = some (r1, r2, r3) := H
 have A3 := Aside0.mk A30
 clear A30
 simp only [Option.some.injEq, Prod.mk.injEq] at H
 obtain ⟨rfl, rfl, rfl⟩ := H
 go_enter Tryd.func13, Tryd.ntmps13
 go_wp2_with (first | ((with_reducible refine gate_dst (N := 4) rfl ?_); refine box_event ?hg (N := 4) ?hd (cs := #[.bool false, .string (⟨#[]⟩ : ByteArray), .string (⟨#[]⟩ : ByteArray)]) (t := 33) ?hr ?_; (case hd => rfl); (case hg => rfl); (case hr => first | (go_simp; done) | (go_simp; rfl)); intro gb207 hg w4 hbox hb; have n0_ := aM (below_step (bU HB.out) hb); have n1_ := aM (hbox); have n2_ := aM ((by rw [hg]; exact (below_size (bU HB.out)) : w.heap.size ≤ gb207)); have n3_ := aM ((by rw [hg]; exact (below_size (bU HB.out)) : w.heap.size ≤ gb207)); clear HB; have HB := n0_; have BK207 := n1_; have GW207 := n2_; have GE207 := n3_; clear n0_ n1_ n2_ n3_; clear hb hbox hg) | ((with_reducible refine gate_callee (f := 29) rfl ?_); refine goesLq (some 10) rfl rfl Tryd.func29 #[.int .i64 a0, .int .i64 a1] rfl ?_; (with_reducible refine (insolvencyref1_Fraction.calls k a0 a1 t208 t209 t210 t211 _ A3.out).mono ?_); rintro e w5 ⟨rfl, hb⟩; refine ⟨_, rfl, ?_⟩; have n0_ := aM (blk_below (kU BK207.out) hb); have n1_ := aM (below_step (bU HB.out) hb); clear BK207; clear HB; have BK207 := n0_; have HB := n1_; clear n0_ n1_; (try clear hb); (try clear hb2); (try clear hk); (try clear hi)) | ((with_reducible refine gate_dst (N := 5) rfl ?_); refine box_event ?hg (N := 5) ?hd (cs := #[.bool false, .string (⟨#[]⟩ : ByteArray), .string (⟨#[]⟩ : ByteArray)]) (t := 33) ?hr ?_; (case hd => rfl); (case hg => rfl); (case hr => first | (go_simp; done) | (go_simp; rfl)); intro gb212 hg w6 hbox hb; have n0_ := aM (blk_below (kU BK207.out) hb); have n1_ := aM (below_step (bU HB.out) hb); have n2_ := aM (hbox); have n3_ := aM ((by rw [hg]; exact (below_size (bU HB.out)) : w.heap.size ≤ gb212)); have n4_ := aM ((by rw [hg]; exact (below_size (bU HB.out)) : w.heap.size ≤ gb212)); have n5_ := aM ((by rw [hg]; exact Nat.ne_of_lt (blk_lt (kU BK207.out)) : gb207 ≠ gb212)); have n6_ := aM ((by rw [hg]; exact Nat.ne_of_gt (blk_lt (kU BK207.out)) : gb212 ≠ gb207)); clear BK207; clear HB; have BK207 := n0_; have HB := n1_; have BK212 := n2_; have GW212 := n3_; have GE212 := n4_; have NB207_212 := n5_; have NB212_207 := n6_; clear n0_ n1_ n2_ n3_ n4_ n5_ n6_; clear hb hbox hg; have hnb7 := NB212_207.out; have hnc7 := NB207_212.out; obtain ⟨hcz8_0, hcz8_1, hcz8_2, hfz8_0, hfz8_1, hfz8_2⟩ := cz3 BK212.out; obtain ⟨hcz9_0, hcz9_1, hcz9_2, hfz9_0, hfz9_1, hfz9_2⟩ := cz3 BK207.out))
 refine bodyPost_ret (results_cell_row rfl _ _ gb207 33 #[.bool t208, .string t209, .string t210] (0, 0) _ rfl (kP BK207.out) Tryd.underlying33 rfl (by kernel_rfl)) rfl ?_
 exact ⟨by first | rfl | (simp [errW_none, errW_some] <;> rfl) | (simp [*, errW_none, errW_some] <;> rfl), bU HB.out⟩

/-! ### strings_trimLeftByte: function 85 -/
def strings_trimLeftByte.l0 : Nat → ByteArray → Int → Option (ByteArray)
 | 0, _, _ => none
 | k + 1, x0, x1 => if (x0.size : Int) > 0 then (if 0 < (x0.size : Int) then (if (bt x0 0) = x1 then (if 1 ≤ (x0.size : Int) then (strings_trimLeftByte.l0 k (x0.extract 1 x0.size) x1) else (none)) else (some x0)) else (none)) else (some x0)
def strings_trimLeftByte.f (k : Nat) (a0 : ByteArray) (a1 : Int) : Option (ByteArray) := strings_trimLeftByte.l0 k a0 a1
theorem strings_trimLeftByte.mono_l : ∀ k, (∀ y0 y1, LeO (strings_trimLeftByte.l0 k y0 y1) (strings_trimLeftByte.l0 (k + 1) y0 y1))
 | 0 => fun _ _ r h => by simp [strings_trimLeftByte.l0] at h
 | k + 1 => by
  have ih0 := strings_trimLeftByte.mono_l k
  ·intro y0 y1
   unfold strings_trimLeftByte.l0
   repeat' first
   | (with_reducible exact ih0 _ _)
   | (with_reducible exact LeO.refl _)
   | (with_reducible exact LeO.none _)
   | (with_reducible refine LeO.ite ?_ ?_)
   | (with_reducible refine LeO.bind ?_ (fun _ => ?_))
   | exact LeO.none _
   | refine LeO.ite ?_ ?_
   | refine LeO.bind ?_ (fun _ => ?_)
theorem strings_trimLeftByte.mono : ∀ a0 a1 k, LeO (strings_trimLeftByte.f k a0 a1) (strings_trimLeftByte.f (k + 1) a0 a1) := by
 intro a0 a1 k
 have ih0 := strings_trimLeftByte.mono_l k
 unfold strings_trimLeftByte.f
 repeat' first
   | (with_reducible exact ih0 _ _)
   | (with_reducible exact LeO.refl _)
   | (with_reducible exact LeO.none _)
   | (with_reducible refine LeO.ite ?_ ?_)
   | (with_reducible refine LeO.bind ?_ (fun _ => ?_))
   | exact LeO.none _
   | refine LeO.ite ?_ ?_
   | refine LeO.bind ?_ (fun _ => ?_)
set_option maxHeartbeats 8000000 in
set_option maxRecDepth 100000 in
theorem strings_trimLeftByte.calls (k : Nat) (a0 : ByteArray) (a1 : Int) (r : ByteArray) (w : World) (h : strings_trimLeftByte.f k a0 a1 = some r) :
  Calls Tryd.prog 85 #[.string a0, .int .u8 a1] w fun e w' => e = .returned (.string r) ∧ Drawn0 w w' := by
 have H : (strings_trimLeftByte.l0 k a0 a1) = some r := h
 clear h
 have H' := Aside0.mk H
 clear H
 go_enter Tryd.func85, Tryd.ntmps85
 go_wp2
 go_loopg [0] k (fun kq v0 w' => ∃ (x0_1 : ByteArray), v0 = .string x0_1 ∧ Aside0 (strings_trimLeftByte.l0 kq x0_1 a1 = some r) ∧ Aside0 (kq ≤ k) ∧ Drawn0 w w')
 case atStart => exact ⟨(a0), (by first | rfl | (simp; done) | (simp [*]; done)), H', ⟨Nat.le_refl _⟩, by repeat (first | exact Drawn0.refl _ | apply Drawn0.step)⟩
 case round =>
  clear H'
  try clear p2
  obtain ⟨x0_1, rfl, HA, HK1, ⟨m1, rfl⟩⟩ := hrel
  cases gk with
  | zero => exact absurd HA.out (by simp [strings_trimLeftByte.l0])
  | succ k1 =>
   have H := HA.out
   clear HA
   simp only [strings_trimLeftByte.l0] at H
   by_cases c3 : (x0_1.size : Int) > 0
   ·rw [if_pos c3] at H
    have c3b0 : decide (0 < (x0_1.size : Int)) = true := decide_eq_true c3
    have c3b1 : decide (0 < x0_1.size) = true := decide_eq_true (by omega)
    clear c3
    by_cases c4 : 0 < (x0_1.size : Int)
    ·rw [if_pos c4] at H
     have c4b0 := decide_eq_true c4
     have c4b1 : decide (0 < x0_1.size) = true := decide_eq_true (by omega)
     clear c4
     by_cases c6 : (bt x0_1 0) = a1
     ·rw [if_pos c6] at H
      have c6b0 : ((bt x0_1 0) == a1) = true := beq_iff_eq.mpr c6
      have c6b1 : ((bt x0_1 0) != a1) = false := bne_eq_false_iff_eq.mpr c6
      clear c6
      by_cases c7 : 1 ≤ (x0_1.size : Int)
      ·rw [if_pos c7] at H
       have c7b0 := eq_true c7
       have c7b1 := decide_eq_true c7
       clear c7
       have H' := Aside0.mk H
       clear H
       have p5 : 0 ≤ (0 : Int) := (by omega)
       have q5 : 0 < x0_1.size := (by have : (0 : Int) < (x0_1.size : Int) := oD; omega)
       have hx5 : ∀ h : 0 < x0_1.size, ((x0_1[0]'h).toNat : Int) = bt x0_1 0 := bt_at x0_1 0
       clear p5
       have qi5 : (0 < (x0_1.size : Int)) = True := eq_true (oD)
       replace q5 := eq_true q5
       go_wp2
       go_roundg k1
       case measure => have := HK1.out; omega
       case rel => exact ⟨(x0_1.extract 1 x0_1.size), (by first | rfl | (simp; done) | (simp [*]; done)), H', ⟨by have := HK1.out; omega⟩, by repeat (first | exact Drawn0.refl _ | apply Drawn0.step)⟩
      ·rw [if_neg c7] at H
       exact absurd H (by simp)
     ·rw [if_neg c6] at H
      have c6b0 : ((bt x0_1 0) == a1) = false := beq_eq_false_iff_ne.mpr c6
      have c6b1 : ((bt x0_1 0) != a1) = true := bne_iff_ne.mpr c6
      obtain rfl := Option.some.inj H
      have p5 : 0 ≤ (0 : Int) := (by omega)
      have q5 : 0 < x0_1.size := (by have : (0 : Int) < (x0_1.size : Int) := oD; omega)
      have hx5 : ∀ h : 0 < x0_1.size, ((x0_1[0]'h).toNat : Int) = bt x0_1 0 := bt_at x0_1 0
      clear p5
      have qi5 : (0 < (x0_1.size : Int)) = True := eq_true (oD)
      replace q5 := eq_true q5
      go_wp2
      go_ret
      exact ⟨by first | rfl | (simp; done) | (simp [*]; done), by repeat (first | exact Drawn0.refl _ | apply Drawn0.step)⟩
    ·rw [if_neg c4] at H
     exact absurd H (by simp)
   ·rw [if_neg c3] at H
    have c3b0 : decide (0 < (x0_1.size : Int)) = false := decide_eq_false c3
    have c3b1 : decide (0 < x0_1.size) = false := decide_eq_false (by omega)
    clear c3
    obtain rfl := Option.some.inj H
    go_wp2
    go_ret
    exact ⟨by first | rfl | (simp; done) | (simp [*]; done), by repeat (first | exact Drawn0.refl _ | apply Drawn0.step)⟩

-- NOT PRINTED: function 86 (strings_makeASCIISet)

-- NOT PRINTED: function 98 (strings_asciiSet_contains)

-- NOT PRINTED: function 87 (strings_trimLeftASCII)

-- NOT PRINTED: function 103 (utf8_decodeRuneInStringSlow)

-- NOT PRINTED: function 99 (utf8_DecodeRuneInString)

-- NOT PRINTED: function 110 (bytealg_IndexByteString)

-- NOT PRINTED: function 109 (stringslite_IndexByte)

-- NOT PRINTED: function 105 (strings_IndexByte)

-- NOT PRINTED: function 106 (utf8_ValidRune)

-- NOT PRINTED: function 107 (bytealg_Cutover)

-- NOT PRINTED: function 108 (bytealg_IndexString)

-- NOT PRINTED: function 104 (strings_IndexRune)

-- NOT PRINTED: function 100 (strings_ContainsRune)

-- NOT PRINTED: function 88 (strings_trimLeftUnicode)

end Go.Proofs.YtjeamaahhpbbkaaDoor.PAll
