-- PRINTED by a session's own changed print
import Derived.Test.YtjeamaahhpbbkaaDoorPAllx0
import Derived.Test.YtjeamaahhpbbkaaDoorPAllx4
import Derived.Test.YtjeamaahhpbbkaaDoorPAllx5
namespace Go.Proofs.YtjeamaahhpbbkaaDoor.PAll
open Go.RowKit Go.Proofs.YtjeamaahhpbbkaaDoorW.PrintWords Go.Proofs.YtjeamaahhpbbkaaDoorW.PrintLast
set_option linter.unusedVariables false
set_option linter.unusedSimpArgs false

/-! ### natural_Multiply: function 35 -/
mutual
def natural_Multiply.l0 : Nat → List Int → List Int → List Int → Int → Int → Option (ByteArray)
 | 0, _, _, _, _, _ => none
 | k + 1, x6, x7, x24, x25, x26 => if x26 < x25 then (if 0 ≤ x26 then (if x26 < (x24.length : Int) then (natural_Multiply.l1 k x6 x7 x26 (rd x24 x26) 0 x24 x25 x26 x6 (x6.length : Int) 0) else (none)) else (none)) else ((natural_limbs_text.f k x7).bind fun t301 => (some t301))
def natural_Multiply.l1 : Nat → List Int → List Int → Int → Int → Int → List Int → Int → Int → List Int → Int → Int → Option (ByteArray)
 | 0, _, _, _, _, _, _, _, _, _, _, _ => none
 | k + 1, x6, x7, x8, x9, x10, x24, x25, x26, x31, x32, x33 => if x33 < x32 then (if 0 ≤ x33 then (if x33 < (x31.length : Int) then (if 0 ≤ (wrap64 (x8 + x33)) then (if (wrap64 (x8 + x33)) < (x7.length : Int) then (natural_Multiply.l1 k x6 (x7.set ((wrap64 (x8 + x33)) : Int).toNat ((IntKind.u64.wrap ((IntKind.u64.wrap ((IntKind.u64.wrap ((IntKind.u64.wrap (x9)) * (IntKind.u64.wrap (rd x31 x33)))) + (IntKind.u64.wrap (rd x7 (wrap64 (x8 + x33)))))) + x10)) % 4294967296)) x8 x9 ((IntKind.u64.wrap ((IntKind.u64.wrap ((IntKind.u64.wrap ((IntKind.u64.wrap (x9)) * (IntKind.u64.wrap (rd x31 x33)))) + (IntKind.u64.wrap (rd x7 (wrap64 (x8 + x33)))))) + x10)) / 4294967296) x24 x25 x26 x31 x32 (wrap64 (x33 + 1))) else (none)) else (none)) else (none)) else (none)) else (if 0 ≤ (wrap64 (x8 + (x6.length : Int))) then (if (wrap64 (x8 + (x6.length : Int))) < (x7.length : Int) then (natural_Multiply.l0 k x6 (x7.set ((wrap64 (x8 + (x6.length : Int))) : Int).toNat ((x10) % 4294967296)) x24 x25 (wrap64 (x26 + 1))) else (none)) else (none))
end
def natural_Multiply.f (k : Nat) (a0 : ByteArray) (a1 : ByteArray) : Option (ByteArray) := (natural_parse.f k a0).bind fun t292 => ((natural_parse.f k a1).bind fun t295 => (if 0 ≤ (wrap64 ((t292.length : Int) + (t295.length : Int))) then (if (wrap64 ((t292.length : Int) + (t295.length : Int)) : Int).toNat ≤ 70368744177664 then (natural_Multiply.l0 k t295 (List.replicate (wrap64 ((t292.length : Int) + (t295.length : Int)) : Int).toNat 0) t292 (t292.length : Int) 0) else (none)) else (none)))
theorem natural_Multiply.mono_l : ∀ k, (∀ y0 y1 y2 y3 y4, LeO (natural_Multiply.l0 k y0 y1 y2 y3 y4) (natural_Multiply.l0 (k + 1) y0 y1 y2 y3 y4)) ∧ (∀ y0 y1 y2 y3 y4 y5 y6 y7 y8 y9 y10, LeO (natural_Multiply.l1 k y0 y1 y2 y3 y4 y5 y6 y7 y8 y9 y10) (natural_Multiply.l1 (k + 1) y0 y1 y2 y3 y4 y5 y6 y7 y8 y9 y10))
 | 0 => ⟨fun _ _ _ _ _ r h => by simp [natural_Multiply.l0] at h, fun _ _ _ _ _ _ _ _ _ _ _ r h => by simp [natural_Multiply.l1] at h⟩
 | k + 1 => by
  obtain ⟨ih0, ih1⟩ := natural_Multiply.mono_l k
  refine ⟨?_, ?_⟩
  ·intro y0 y1 y2 y3 y4
   unfold natural_Multiply.l0
   repeat' first
   | (with_reducible exact ih0 _ _ _ _ _)
   | (with_reducible exact ih1 _ _ _ _ _ _ _ _ _ _ _)
   | (with_reducible exact natural_limbs_text.mono _ _)
   | (with_reducible exact natural_parse.mono _ _)
   | (with_reducible exact LeO.refl _)
   | (with_reducible exact LeO.none _)
   | (with_reducible refine LeO.ite ?_ ?_)
   | (with_reducible refine LeO.bind ?_ (fun _ => ?_))
   | exact LeO.none _
   | refine LeO.ite ?_ ?_
   | refine LeO.bind ?_ (fun _ => ?_)
  ·intro y0 y1 y2 y3 y4 y5 y6 y7 y8 y9 y10
   unfold natural_Multiply.l1
   repeat' first
   | (with_reducible exact ih0 _ _ _ _ _)
   | (with_reducible exact ih1 _ _ _ _ _ _ _ _ _ _ _)
   | (with_reducible exact natural_limbs_text.mono _ _)
   | (with_reducible exact natural_parse.mono _ _)
   | (with_reducible exact LeO.refl _)
   | (with_reducible exact LeO.none _)
   | (with_reducible refine LeO.ite ?_ ?_)
   | (with_reducible refine LeO.bind ?_ (fun _ => ?_))
   | exact LeO.none _
   | refine LeO.ite ?_ ?_
   | refine LeO.bind ?_ (fun _ => ?_)
theorem natural_Multiply.mono : ∀ a0 a1 k, LeO (natural_Multiply.f k a0 a1) (natural_Multiply.f (k + 1) a0 a1) := by
 intro a0 a1 k
 obtain ⟨ih0, ih1⟩ := natural_Multiply.mono_l k
 unfold natural_Multiply.f
 repeat' first
   | (with_reducible exact ih0 _ _ _ _ _)
   | (with_reducible exact ih1 _ _ _ _ _ _ _ _ _ _ _)
   | (with_reducible exact natural_limbs_text.mono _ _)
   | (with_reducible exact natural_parse.mono _ _)
   | (with_reducible exact LeO.refl _)
   | (with_reducible exact LeO.none _)
   | (with_reducible refine LeO.ite ?_ ?_)
   | (with_reducible refine LeO.bind ?_ (fun _ => ?_))
   | exact LeO.none _
   | refine LeO.ite ?_ ?_
   | refine LeO.bind ?_ (fun _ => ?_)
set_option maxHeartbeats 8000000 in
set_option maxRecDepth 100000 in
theorem natural_Multiply.calls (k : Nat) (a0 : ByteArray) (a1 : ByteArray) (r : ByteArray) (w : World) (h : natural_Multiply.f k a0 a1 = some r) :
  Calls Tryd.prog 35 #[.string a0, .string a1] w fun e w' => e = .returned (.string r) ∧ Below w.heap.size w w' := by
 have HB := aM (Below.refl w.heap.size w)
 have H : ((natural_parse.f k a0).bind fun t292 => ((natural_parse.f k a1).bind fun t295 => (if 0 ≤ (wrap64 ((t292.length : Int) + (t295.length : Int))) then (if (wrap64 ((t292.length : Int) + (t295.length : Int)) : Int).toNat ≤ 70368744177664 then (natural_Multiply.l0 k t295 (List.replicate (wrap64 ((t292.length : Int) + (t295.length : Int)) : Int).toNat 0) t292 (t292.length : Int) 0) else (none)) else (none)))) = some r := h
 clear h
 replace H := bE H
 obtain ⟨t292, A30, H⟩ := H
 replace H : ((natural_parse.f k a1).bind fun t295 => (if 0 ≤ (wrap64 ((t292.length : Int) + (t295.length : Int))) then (if (wrap64 ((t292.length : Int) + (t295.length : Int)) : Int).toNat ≤ 70368744177664 then (natural_Multiply.l0 k t295 (List.replicate (wrap64 ((t292.length : Int) + (t295.length : Int)) : Int).toNat 0) t292 (t292.length : Int) 0) else (none)) else (none))) = some r := H
 have A3 := Aside0.mk A30
 clear A30
 replace H := bE H
 obtain ⟨t295, A40, H⟩ := H
 replace H : (if 0 ≤ (wrap64 ((t292.length : Int) + (t295.length : Int))) then (if (wrap64 ((t292.length : Int) + (t295.length : Int)) : Int).toNat ≤ 70368744177664 then (natural_Multiply.l0 k t295 (List.replicate (wrap64 ((t292.length : Int) + (t295.length : Int)) : Int).toNat 0) t292 (t292.length : Int) 0) else (none)) else (none)) = some r := H
 have A4 := Aside0.mk A40
 clear A40
 obtain ⟨ji5, hji5⟩ : ∃ j_ : Int, (wrap64 ((t292.length : Int) + (t295.length : Int))) = j_ := ⟨_, rfl⟩
 replace H : (if 0 ≤ (ji5) then (if (ji5 : Int).toNat ≤ 70368744177664 then (natural_Multiply.l0 k t295 (List.replicate (ji5 : Int).toNat 0) t292 (t292.length : Int) 0) else (none)) else (none)) = some r := by first | (rw [hji5] at H; exact H) | (simp only [hji5] at H ⊢; exact H)
 (try rw [hji5] at A3)
 (try rw [hji5] at A4)
 have hji5w : (IntKind.i64.wrap ((t292.length : Int) + (t295.length : Int))) = ji5 := (i64_w _).trans hji5
 by_cases c6 : 0 ≤ (ji5)
 ·rw [if_pos c6] at H
  have c6b0 := eq_true c6
  have c6b1 := decide_eq_true c6
  clear c6
  by_cases c7 : (ji5 : Int).toNat ≤ 70368744177664
  ·rw [if_pos c7] at H
   have c7b0 := eq_true c7
   have c7b1 := decide_eq_true c7
   clear c7
   obtain ⟨y298, hy298⟩ : ∃ y_ : List Int, y_ = (List.replicate (ji5 : Int).toNat 0) := ⟨_, rfl⟩
   replace H : (natural_Multiply.l0 k t295 y298 t292 (t292.length : Int) 0) = some r := by first | (rw [hy298]; with_reducible exact H) | (have H2_ := (Option.bind_some _ _).symm.trans H; rw [hy298]; with_reducible exact H2_) | (have H2_ := (Option.bind_some _ _).symm.trans H; with_reducible exact H2_) | with_reducible exact H | (rw [hy298]; exact H) | exact H
   have Ny298 := Aside0.mk hy298
   clear hy298
   have H' := Aside0.mk H
   clear H
   go_enter Tryd.func35, Tryd.ntmps35
   go_wp2_with (first | ((with_reducible refine gate_callee (f := 54) rfl ?_); refine goesLq (some 15) rfl rfl Tryd.func54 #[.string a0] rfl ?_; (with_reducible refine (natural_parse.calls k a0 t292 _ A3.out).mono ?_); rintro e w8 ⟨v293, rfl, ho0, hb⟩; refine ⟨_, rfl, ?_⟩; have n0_ := aM (Kd.V_lower (Kd.V_mono (ok' := fun k_ => True) ho0 (fun k_ hk_ => trivial)) (below_size (bU HB.out))); have n1_ := aM (below_step (bU HB.out) hb); clear HB; have HO294 := n0_; have HB := n1_; clear n0_ n1_; (try clear hb); (try clear hb2); (try clear hk); (try clear hi); (try clear ho0)) | ((with_reducible refine gate_callee (f := 54) rfl ?_); refine goesLq (some 17) rfl rfl Tryd.func54 #[.string a1] rfl ?_; (with_reducible refine (natural_parse.calls k a1 t295 _ A4.out).mono ?_); rintro e w9 ⟨v296, rfl, ho0, hb⟩; refine ⟨_, rfl, ?_⟩; have n0_ := aM (Kd.V_below (Kd.V_up HO294.out) hb); have n1_ := aM (Kd.V_lower (Kd.V_mono (ok' := fun k_ => True) ho0 (fun k_ hk_ => trivial)) (below_size (bU HB.out))); have n2_ := aM (below_step (bU HB.out) hb); clear HO294; clear HB; have HO294 := n0_; have HO297 := n1_; have HB := n2_; clear n0_ n1_ n2_; (try clear hb); (try clear hb2); (try clear hk); (try clear hi); (try clear ho0); obtain ⟨Ao10, co10, eo10⟩ := Kd.V_slice HO294.out; subst eo10; obtain ⟨Ao11, co11, eo11⟩ := Kd.V_slice HO297.out; subst eo11) | ((with_reducible refine gate_dst (N := 23) rfl ?_); refine Kd.R_make (Kd.int .u32) _ 86 rfl (N := 23) rfl 84 _ _ rfl ji5 rfl rfl Tryd.underlying84 (.int .u32 0) 4 info86 rfl (by decide) (by omega) 0 (ok := fun _ => True) (okp := fun _ => True) rfl (fun _ hk => hk) trivial (oD) (Nat.le_trans (Nat.mul_le_mul_right _ (oD : ji5.toNat ≤ 70368744177664)) (by omega)) (Below.refl _ _) (Nat.le_refl _) ?_; intro v299 w12 ho13 hb hg_ hnew_; clear hg_ hnew_; (first | rw [← Ny298.out] at ho13 | (simp only [Int.reduceToNat] at ho13; rw [← Ny298.out] at ho13)); have n0_ := aM (Kd.V_elder' (Kd.V_up HO294.out) (Kd.R_base ho13) hb); have n1_ := aM (Kd.V_elder' (Kd.V_up HO297.out) (Kd.R_base ho13) hb); have n2_ := aM (Kd.R_lower ho13 (below_size (bU HB.out))); have n3_ := aM (below_step (bU HB.out) hb); clear HO294; clear HO297; clear HB; have HO294 := n0_; have HO297 := n1_; have HO300 := n2_; have HB := n3_; clear n0_ n1_ n2_ n3_; clear hb ho13))
   go_loopg [26] k (fun kq v26 w' => ∃ (x7_1 : List Int) (x26_1 : Int), v26 = .int .i64 x26_1 ∧ Aside0 (natural_Multiply.l0 kq t295 x7_1 t292 (t292.length : Int) x26_1 = some r) ∧ Aside0 (kq ≤ k) ∧ Aside0 (Kd.V (Kd.int .u32) 86 w' w.heap.size (fun k_ => some k_ ≠ (v299 : Value).ownBlock) (.slice Ao11 t295.length co11) t295) ∧ Aside0 (Kd.R (Kd.int .u32) 86 w' w.heap.size (fun _ => True) v299 x7_1) ∧ Aside0 (Kd.V (Kd.int .u32) 86 w' w.heap.size (fun k_ => some k_ ≠ (v299 : Value).ownBlock) (.slice Ao10 t292.length co10) t292) ∧ Aside0 (Below w.heap.size w w'))
   case atStart => exact ⟨(y298), (0), (by first | rfl | (simp; done) | (simp [*]; done)), H', ⟨Nat.le_refl _⟩, ⟨Kd.V_up (Kd.V_mono HO297.out (fun _ hk => hk.2))⟩, ⟨Kd.R_up HO300.out⟩, ⟨Kd.V_up (Kd.V_mono HO294.out (fun _ hk => hk.2))⟩, ⟨bU HB.out⟩⟩
   case round =>
    clear H'
    (try clear p2); (try clear c3); (try clear c5); (try clear c6); (try clear c6b0); (try clear c6b1); (try clear p6); (try clear c7); (try clear c7b0); (try clear c7b1)
    obtain ⟨x7_1, x26_1, rfl, HA, HK1, HO_6, HO_7, HO_24, HB⟩ := hrel
    cases gk with
    | zero => exact absurd HA.out (by simp [natural_Multiply.l0])
    | succ k1 =>
     have H := HA.out
     clear HA
     simp only [natural_Multiply.l0] at H
     by_cases c14 : x26_1 < (t292.length : Int)
     ·rw [if_pos c14] at H
      have c14b0 := decide_eq_true c14
      clear c14
      by_cases c15 : 0 ≤ x26_1
      ·rw [if_pos c15] at H
       have c15b0 := decide_eq_true c15
       clear c15
       by_cases c16 : x26_1 < (t292.length : Int)
       ·rw [if_pos c16] at H
        have c16b0 := decide_eq_true c16
        clear c16
        have H' := Aside0.mk H
        clear H
        have p302 : 0 ≤ (x26_1 : Int) := oD
        have q302 : x26_1 < (t292.length : Int) := oD
        obtain ⟨ad302, e302, hx302_0⟩ := Kd.at_int (Kd.V_reads' HO_24.out).2.2 x26_1 p302 q302
        cases e302
        replace p302 := eq_true p302
        replace q302 := eq_true q302
        go_wp2
        go_loopg [10, 33] k1 (fun kq v10 v33 w' => ∃ (x7_2 : List Int) (x10_2 : Int) (x33_2 : Int), v10 = .int .u64 x10_2 ∧ v33 = .int .i64 x33_2 ∧ Aside0 (natural_Multiply.l1 kq t295 x7_2 x26_1 (rd t292 x26_1) x10_2 t292 (t292.length : Int) x26_1 t295 (t295.length : Int) x33_2 = some r) ∧ Aside0 (kq ≤ k1) ∧ Aside0 (Kd.V (Kd.int .u32) 86 w' w.heap.size (fun k_ => some k_ ≠ (v299 : Value).ownBlock) (.slice Ao11 t295.length co11) t295) ∧ Aside0 (Kd.R (Kd.int .u32) 86 w' w.heap.size (fun _ => True) v299 x7_2) ∧ Aside0 (Kd.V (Kd.int .u32) 86 w' w.heap.size (fun k_ => some k_ ≠ (v299 : Value).ownBlock) (.slice (some ad302) t292.length co10) t292) ∧ Aside0 (Kd.V (Kd.int .u32) 86 w' w.heap.size (fun k_ => some k_ ≠ (v299 : Value).ownBlock) (.slice Ao11 t295.length co11) t295) ∧ Aside0 (Below w.heap.size w w'))
        case atStart => exact ⟨(x7_1), (0), (0), (by first | rfl | (simp; done) | (simp [*]; done)), (by first | rfl | (simp; done) | (simp [*]; done)), H', ⟨Nat.le_refl _⟩, ⟨Kd.V_up HO_6.out⟩, ⟨Kd.R_up HO_7.out⟩, ⟨Kd.V_up HO_24.out⟩, ⟨Kd.V_up HO_6.out⟩, ⟨bU HB.out⟩⟩
        case round =>
         clear H'
         (try clear c1); (try clear p2); (try clear c3); (try clear p3); (try clear q3); (try clear hx3); (try clear c5); (try clear c6); (try clear c6b0); (try clear c6b1); (try clear p6); (try clear c7); (try clear c7b0); (try clear c7b1); (try clear c14); (try clear c14b0); (try clear c15); (try clear c15b0); (try clear c16); (try clear c16b0); (try clear hx302_0); (try clear p2); (try clear p302); (try clear p6); (try clear q302)
         obtain ⟨x7_2, x10_2, x33_2, rfl, rfl, HA, HK2, HO_6, HO_7, HO_24, HO_31, HB⟩ := hrel
         cases gk with
         | zero => exact absurd HA.out (by simp [natural_Multiply.l1])
         | succ k2 =>
          have H := HA.out
          clear HA
          simp only [natural_Multiply.l1] at H
          by_cases c17 : x33_2 < (t295.length : Int)
          ·rw [if_pos c17] at H
           have c17b0 := decide_eq_true c17
           clear c17
           by_cases c18 : 0 ≤ x33_2
           ·rw [if_pos c18] at H
            have c18b0 := decide_eq_true c18
            clear c18
            by_cases c19 : x33_2 < (t295.length : Int)
            ·rw [if_pos c19] at H
             have c19b0 := decide_eq_true c19
             clear c19
             obtain ⟨ji20, hji20⟩ : ∃ j_ : Int, (wrap64 (x26_1 + x33_2)) = j_ := ⟨_, rfl⟩
             replace H : (if 0 ≤ (ji20) then (if (ji20) < (x7_2.length : Int) then (natural_Multiply.l1 k2 t295 (x7_2.set ((ji20) : Int).toNat ((IntKind.u64.wrap ((IntKind.u64.wrap ((IntKind.u64.wrap ((IntKind.u64.wrap ((rd t292 x26_1))) * (IntKind.u64.wrap (rd t295 x33_2)))) + (IntKind.u64.wrap (rd x7_2 (ji20))))) + x10_2)) % 4294967296)) x26_1 (rd t292 x26_1) ((IntKind.u64.wrap ((IntKind.u64.wrap ((IntKind.u64.wrap ((IntKind.u64.wrap ((rd t292 x26_1))) * (IntKind.u64.wrap (rd t295 x33_2)))) + (IntKind.u64.wrap (rd x7_2 (ji20))))) + x10_2)) / 4294967296) t292 (t292.length : Int) x26_1 t295 (t295.length : Int) (wrap64 (x33_2 + 1))) else (none)) else (none)) = some r := by first | (rw [hji20] at H; exact H) | (simp only [hji20] at H ⊢; exact H)
             have hji20w : (IntKind.i64.wrap (x26_1 + x33_2)) = ji20 := (i64_w _).trans hji20
             by_cases c21 : 0 ≤ (ji20)
             ·rw [if_pos c21] at H
              have c21b0 := decide_eq_true c21
              clear c21
              by_cases c22 : (ji20) < (x7_2.length : Int)
              ·rw [if_pos c22] at H
               have c22b0 := decide_eq_true c22
               clear c22
               obtain ⟨y305, hy305⟩ : ∃ y_ : List Int, y_ = (x7_2.set ((ji20) : Int).toNat ((IntKind.u64.wrap ((IntKind.u64.wrap ((IntKind.u64.wrap ((IntKind.u64.wrap ((rd t292 x26_1))) * (IntKind.u64.wrap (rd t295 x33_2)))) + (IntKind.u64.wrap (rd x7_2 (ji20))))) + x10_2)) % 4294967296)) := ⟨_, rfl⟩
               replace H : (natural_Multiply.l1 k2 t295 y305 x26_1 (rd t292 x26_1) ((IntKind.u64.wrap ((IntKind.u64.wrap ((IntKind.u64.wrap ((IntKind.u64.wrap ((rd t292 x26_1))) * (IntKind.u64.wrap (rd t295 x33_2)))) + (IntKind.u64.wrap (rd x7_2 (ji20))))) + x10_2)) / 4294967296) t292 (t292.length : Int) x26_1 t295 (t295.length : Int) (wrap64 (x33_2 + 1))) = some r := by first | (rw [hy305]; with_reducible exact H) | (have H2_ := (Option.bind_some _ _).symm.trans H; rw [hy305]; with_reducible exact H2_) | (have H2_ := (Option.bind_some _ _).symm.trans H; with_reducible exact H2_) | with_reducible exact H | (rw [hy305]; exact H) | exact H
               have Ny305 := Aside0.mk hy305
               clear hy305
               have H' := Aside0.mk H
               clear H
               have p303 : 0 ≤ (x33_2 : Int) := oD
               have q303 : x33_2 < (t295.length : Int) := oD
               obtain ⟨ad303, e303, hx303_0⟩ := Kd.at_int (Kd.V_reads' HO_31.out).2.2 x33_2 p303 q303
               cases e303
               replace p303 := eq_true p303
               replace q303 := eq_true q303
               obtain ⟨Ao24, co24, eo24⟩ := Kd.R_slice HO_7.out
               subst eo24
               have p304 : 0 ≤ ((ji20) : Int) := oD
               have q304 : (ji20) < (x7_2.length : Int) := oD
               obtain ⟨ad304, e304, hx304_0⟩ := Kd.at_int (Kd.R_reads' HO_7.out).2.2 (ji20) p304 q304
               cases e304
               replace p304 := eq_true p304
               replace q304 := eq_true q304
               have p23 : 0 ≤ ((ji20) : Int) := oD
               have q23 : ((ji20) : Int) < ((x7_2.length : Int) : Int) := oD
               obtain ⟨go23, co23, eo23, gb23, gl23, cl23, HG23⟩ := Kd.R_form HO_7.out (by omega)
               (first | cases eo23 | (injection eo23 with ea_ en_ ec_; (first | subst ea_ | (injection ea_ with ea_; subst ea_)); subst ec_; clear en_))
               have GB23 := Aside0.mk gb23
               have GG23 := Aside0.mk HG23
               clear gb23 gl23 HG23
               (first | simp only [add_plain] at hx304_0 | skip)
               obtain ⟨hx23_0, hf23_0⟩ := Kd.R_celln 0 HO_7.out ((ji20) : Int) p23 q23
               replace p23 := eq_true p23
               replace q23 := eq_true q23
               have HP25 := Kd.R_putg HO_7.out ((ji20) : Int) ((IntKind.u64.wrap ((IntKind.u64.wrap ((IntKind.u64.wrap ((IntKind.u64.wrap ((rd t292 x26_1))) * (IntKind.u64.wrap (rd t295 x33_2)))) + (IntKind.u64.wrap (rd x7_2 (ji20))))) + x10_2)) % 4294967296)
               go_wp2_with (first | ((with_reducible refine gate_store (t := 86) (p := 59) rfl ?_); refine store_event (t := 86) (p := 59) (v := ?vo_w26) (w1 := (wr.setCell ⟨go23, ((ji20) : Int).toNat, none⟩ (.int .u32 ((IntKind.u64.wrap ((IntKind.u64.wrap ((IntKind.u64.wrap ((IntKind.u64.wrap ((rd t292 x26_1))) * (IntKind.u64.wrap (rd t295 x33_2)))) + (IntKind.u64.wrap (rd x7_2 (ji20))))) + x10_2)) % 4294967296)))) ?hg ?ho ?hn ?hr ?_; (case ho => rfl); (case hg => rfl); (case hn => rfl); (case hr => first | (go_simp; done) | (go_simp; rfl)); intro w26 hw; have hg : wr.grownBy w26 (some go23) := (by rw [hw]; exact HP25.2); have hp_ : Kd.R (Kd.int .u32) 86 w26 w.heap.size (fun _ => True) (.slice (some ⟨go23, 0, none⟩) x7_2.length co24) y305 := (by rw [hw, Ny305.out]; exact HP25.1); clear HP25; have n0_ := aM (Kd.V_afterv (v := (.slice (some ⟨go23, 0, none⟩) x7_2.length co24)) (v1 := (.slice (some ⟨go23, 0, none⟩) x7_2.length co24)) (ok := (fun _ => True)) (Kd.V_up (Kd.V_mono HO_6.out (fun _ hk => ⟨trivial, hk⟩))) hg (.inl rfl)); have n1_ := aM (hp_); have n2_ := aM (Kd.V_afterv (v := (.slice (some ⟨go23, 0, none⟩) x7_2.length co24)) (v1 := (.slice (some ⟨go23, 0, none⟩) x7_2.length co24)) (ok := (fun _ => True)) (Kd.V_up (Kd.V_mono HO_24.out (fun _ hk => ⟨trivial, hk⟩))) hg (.inl rfl)); have n3_ := aM (Kd.V_afterv (v := (.slice (some ⟨go23, 0, none⟩) x7_2.length co24)) (v1 := (.slice (some ⟨go23, 0, none⟩) x7_2.length co24)) (ok := (fun _ => True)) (Kd.V_up (Kd.V_mono HO_31.out (fun _ hk => ⟨trivial, hk⟩))) hg (.inl rfl)); have n4_ := aM ((by rw [hw]; exact below_set (HB.out) GB23.out : Below w.heap.size w w26)); clear HO_6; clear HO_7; clear HO_24; clear HO_31; clear HB; have HO_6 := n0_; have HO_7 := n1_; have HO_24 := n2_; have HO_31 := n3_; have HB := n4_; clear n0_ n1_ n2_ n3_ n4_; clear hg hw hp_))
               go_roundg k2
               case measure => have := HK1.out; have := HK2.out; omega
               case rel => exact ⟨(y305), ((IntKind.u64.wrap ((IntKind.u64.wrap ((IntKind.u64.wrap ((IntKind.u64.wrap ((rd t292 x26_1))) * (IntKind.u64.wrap (rd t295 x33_2)))) + (IntKind.u64.wrap (rd x7_2 (ji20))))) + x10_2)) / 4294967296), (wrap64 (x33_2 + 1)), (by first | rfl | (simp; done) | (simp only [← hji20] <;> (first | rfl | simp)) | (simp [*]; done)), (by first | rfl | (simp; done) | (simp [*]; done)), H', ⟨by have := HK1.out; have := HK2.out; omega⟩, ⟨Kd.V_up (Kd.V_mono HO_6.out (fun _ hk => hk.2))⟩, ⟨Kd.R_up HO_7.out⟩, ⟨Kd.V_up (Kd.V_mono HO_24.out (fun _ hk => hk.2))⟩, ⟨Kd.V_up (Kd.V_mono HO_31.out (fun _ hk => hk.2))⟩, ⟨bU HB.out⟩⟩
              ·rw [if_neg c22] at H
               exact absurd H (by simp)
             ·rw [if_neg c21] at H
              exact absurd H (by simp)
            ·rw [if_neg c19] at H
             exact absurd H (by simp)
           ·rw [if_neg c18] at H
            exact absurd H (by simp)
          ·rw [if_neg c17] at H
           have c17b0 := decide_eq_false c17
           clear c17
           obtain ⟨ji27, hji27⟩ : ∃ j_ : Int, (wrap64 (x26_1 + (t295.length : Int))) = j_ := ⟨_, rfl⟩
           replace H : (if 0 ≤ (ji27) then (if (ji27) < (x7_2.length : Int) then (natural_Multiply.l0 k2 t295 (x7_2.set ((ji27) : Int).toNat ((x10_2) % 4294967296)) t292 (t292.length : Int) (wrap64 (x26_1 + 1))) else (none)) else (none)) = some r := by first | (rw [hji27] at H; exact H) | (simp only [hji27] at H ⊢; exact H)
           have hji27w : (IntKind.i64.wrap (x26_1 + (t295.length : Int))) = ji27 := (i64_w _).trans hji27
           by_cases c28 : 0 ≤ (ji27)
           ·rw [if_pos c28] at H
            have c28b0 := decide_eq_true c28
            clear c28
            by_cases c29 : (ji27) < (x7_2.length : Int)
            ·rw [if_pos c29] at H
             have c29b0 := decide_eq_true c29
             clear c29
             obtain ⟨y306, hy306⟩ : ∃ y_ : List Int, y_ = (x7_2.set ((ji27) : Int).toNat ((x10_2) % 4294967296)) := ⟨_, rfl⟩
             replace H : (natural_Multiply.l0 k2 t295 y306 t292 (t292.length : Int) (wrap64 (x26_1 + 1))) = some r := by first | (rw [hy306]; with_reducible exact H) | (have H2_ := (Option.bind_some _ _).symm.trans H; rw [hy306]; with_reducible exact H2_) | (have H2_ := (Option.bind_some _ _).symm.trans H; with_reducible exact H2_) | with_reducible exact H | (rw [hy306]; exact H) | exact H
             have Ny306 := Aside0.mk hy306
             clear hy306
             have H' := Aside0.mk H
             clear H
             have p30 : 0 ≤ ((ji27) : Int) := oD
             have q30 : ((ji27) : Int) < ((x7_2.length : Int) : Int) := oD
             obtain ⟨go30, co30, eo30, gb30, gl30, cl30, HG30⟩ := Kd.R_form HO_7.out (by omega)
             (first | cases eo30 | (injection eo30 with ea_ en_ ec_; (first | subst ea_ | (injection ea_ with ea_; subst ea_)); subst ec_; clear en_))
             have GB30 := Aside0.mk gb30
             have GG30 := Aside0.mk HG30
             clear gb30 gl30 HG30
             obtain ⟨hx30_0, hf30_0⟩ := Kd.R_celln 0 HO_7.out ((ji27) : Int) p30 q30
             replace p30 := eq_true p30
             replace q30 := eq_true q30
             have HP31 := Kd.R_putg HO_7.out ((ji27) : Int) ((x10_2) % 4294967296)
             go_wp2_with (first | ((with_reducible refine gate_store (t := 86) (p := 70) rfl ?_); refine store_event (t := 86) (p := 70) (v := ?vo_w32) (w1 := (wr.setCell ⟨go30, ((ji27) : Int).toNat, none⟩ (.int .u32 ((x10_2) % 4294967296)))) ?hg ?ho ?hn ?hr ?_; (case ho => rfl); (case hg => rfl); (case hn => rfl); (case hr => first | (go_simp; done) | (go_simp; rfl)); intro w32 hw; have hg : wr.grownBy w32 (some go30) := (by rw [hw]; exact HP31.2); have hp_ : Kd.R (Kd.int .u32) 86 w32 w.heap.size (fun _ => True) (.slice (some ⟨go30, 0, none⟩) x7_2.length co30) y306 := (by rw [hw, Ny306.out]; exact HP31.1); clear HP31; have n0_ := aM (Kd.V_afterv (v := (.slice (some ⟨go30, 0, none⟩) x7_2.length co30)) (v1 := (.slice (some ⟨go30, 0, none⟩) x7_2.length co30)) (ok := (fun _ => True)) (Kd.V_up (Kd.V_mono HO_6.out (fun _ hk => ⟨trivial, hk⟩))) hg (.inl rfl)); have n1_ := aM (hp_); have n2_ := aM (Kd.V_afterv (v := (.slice (some ⟨go30, 0, none⟩) x7_2.length co30)) (v1 := (.slice (some ⟨go30, 0, none⟩) x7_2.length co30)) (ok := (fun _ => True)) (Kd.V_up (Kd.V_mono HO_24.out (fun _ hk => ⟨trivial, hk⟩))) hg (.inl rfl)); have n3_ := aM (Kd.V_afterv (v := (.slice (some ⟨go30, 0, none⟩) x7_2.length co30)) (v1 := (.slice (some ⟨go30, 0, none⟩) x7_2.length co30)) (ok := (fun _ => True)) (Kd.V_up (Kd.V_mono HO_31.out (fun _ hk => ⟨trivial, hk⟩))) hg (.inl rfl)); have n4_ := aM ((by rw [hw]; exact below_set (HB.out) GB30.out : Below w.heap.size w w32)); clear HO_6; clear HO_7; clear HO_24; clear HO_31; clear HB; have HO_6 := n0_; have HO_7 := n1_; have HO_24 := n2_; have HO_31 := n3_; have HB := n4_; clear n0_ n1_ n2_ n3_ n4_; clear hg hw hp_))
             go_roundg k2
             case measure => have := HK1.out; have := HK2.out; omega
             case rel => exact ⟨(y306), (wrap64 (x26_1 + 1)), (by first | rfl | (simp; done) | (simp [*]; done)), H', ⟨by have := HK1.out; have := HK2.out; omega⟩, ⟨Kd.V_up (Kd.V_mono HO_6.out (fun _ hk => hk.2))⟩, ⟨Kd.R_up HO_7.out⟩, ⟨Kd.V_up (Kd.V_mono HO_24.out (fun _ hk => hk.2))⟩, ⟨bU HB.out⟩⟩
            ·rw [if_neg c29] at H
             exact absurd H (by simp)
           ·rw [if_neg c28] at H
            exact absurd H (by simp)
       ·rw [if_neg c16] at H
        exact absurd H (by simp)
      ·rw [if_neg c15] at H
       exact absurd H (by simp)
     ·rw [if_neg c14] at H
      have c14b0 := decide_eq_false c14
      clear c14
      replace H := bE H
      obtain ⟨t301, A330, H⟩ := H
      replace H : (some t301) = some r := H
      have A33 := Aside0.mk A330
      clear A330
      obtain rfl := Option.some.inj H
      obtain ⟨Ao34, co34, eo34⟩ := Kd.R_slice HO_7.out
      subst eo34
      go_wp2_with (first | ((with_reducible refine gate_callee (f := 55) rfl ?_); refine goesLq (some 73) rfl rfl Tryd.func55 #[.slice Ao34 x7_1.length co34] rfl ?_; (with_reducible refine (natural_limbs_text.calls k1 _ _ x7_1 t301 _ ?side1 ?side2 A33.out).mono ?_); (case side1 => exact Kd.C_up (Kd.R_reads' HO_7.out).2.2); (case side2 => exact (Kd.R_reads' HO_7.out).2.1); rintro e w35 ⟨rfl, hb⟩; refine ⟨_, rfl, ?_⟩; have n0_ := aM (Kd.V_below (Kd.V_up HO_6.out) hb); have n1_ := aM (Kd.R_below (Kd.R_up HO_7.out) hb); have n2_ := aM (Kd.V_below (Kd.V_up HO_24.out) hb); have n3_ := aM (below_step (bU HB.out) hb); clear HO_6; clear HO_7; clear HO_24; clear HB; have HO_6 := n0_; have HO_7 := n1_; have HO_24 := n2_; have HB := n3_; clear n0_ n1_ n2_ n3_; (try clear hb); (try clear hb2); (try clear hk); (try clear hi)))
      go_ret
      exact ⟨by first | rfl | (simp [errW_none, errW_some] <;> rfl) | (simp only [← hji5]; first | rfl | (simp [errW_none, errW_some] <;> rfl)) | (simp [*, errW_none, errW_some] <;> rfl), bU HB.out⟩
  ·rw [if_neg c7] at H
   exact absurd H (by simp)
 ·rw [if_neg c6] at H
  exact absurd H (by simp)

/-! ### rational_den: function 36 -/
def rational_den.f (a0_0 : Bool) (a0_1 : ByteArray) (a0_2 : ByteArray) : Option (ByteArray) := if a0_2.toList = ([] : List UInt8) then (some (⟨#[1]⟩ : ByteArray)) else (some a0_2)
set_option maxHeartbeats 8000000 in
set_option maxRecDepth 100000 in
theorem rational_den.calls (a0_0 : Bool) (a0_1 : ByteArray) (a0_2 : ByteArray) (r : ByteArray) (w : World) (h : rational_den.f a0_0 a0_1 a0_2 = some r) :
  Calls Tryd.prog 36 #[.agg #[.bool a0_0, .string a0_1, .string a0_2]] w fun e w' => e = .returned (.string r) ∧ Below w.heap.size w w' := by
 have hu33 := Tryd.underlying33
 have HB := aM (Below.refl w.heap.size w)
 have H : (if a0_2.toList = ([] : List UInt8) then (some (⟨#[1]⟩ : ByteArray)) else (some a0_2)) = some r := h
 clear h
 by_cases c2 : a0_2.toList = ([] : List UInt8)
 ·rw [if_pos c2] at H
  have c2b0 : (a0_2.toList == ([] : List UInt8)) = true := beq_iff_eq.mpr c2
  have c2b1 : (a0_2.toList != ([] : List UInt8)) = false := bne_eq_false_iff_eq.mpr c2
  clear c2
  obtain rfl := Option.some.inj H
  go_enter Tryd.func36, Tryd.ntmps36
  go_wp2_with (first | ((with_reducible refine gate_dst (N := 1) rfl ?_); refine box_event ?hg (N := 1) ?hd (cs := #[.bool a0_0, .string a0_1, .string a0_2]) (t := 33) ?hr ?_; (case hd => rfl); (case hg => rfl); (case hr => first | (go_simp; done) | (go_simp; rfl)); intro gb307 hg w3 hbox hb; have n0_ := aM (below_step (bU HB.out) hb); have n1_ := aM (hbox); have n2_ := aM ((by rw [hg]; exact (below_size (bU HB.out)) : w.heap.size ≤ gb307)); have n3_ := aM ((by rw [hg]; exact (below_size (bU HB.out)) : w.heap.size ≤ gb307)); clear HB; have HB := n0_; have BK307 := n1_; have GW307 := n2_; have GE307 := n3_; clear n0_ n1_ n2_ n3_; clear hb hbox hg; obtain ⟨hcz4_0, hcz4_1, hcz4_2, hfz4_0, hfz4_1, hfz4_2⟩ := cz3 BK307.out))
  go_ret
  exact ⟨by first | rfl | (simp [errW_none, errW_some] <;> rfl) | (simp [*, errW_none, errW_some] <;> rfl), bU HB.out⟩
 ·rw [if_neg c2] at H
  have c2b0 : (a0_2.toList == ([] : List UInt8)) = false := beq_eq_false_iff_ne.mpr c2
  have c2b1 : (a0_2.toList != ([] : List UInt8)) = true := bne_iff_ne.mpr c2
  obtain rfl := Option.some.inj H
  go_enter Tryd.func36, Tryd.ntmps36
  go_wp2_with (first | ((with_reducible refine gate_dst (N := 1) rfl ?_); refine box_event ?hg (N := 1) ?hd (cs := #[.bool a0_0, .string a0_1, .string a0_2]) (t := 33) ?hr ?_; (case hd => rfl); (case hg => rfl); (case hr => first | (go_simp; done) | (go_simp; rfl)); intro gb307 hg w5 hbox hb; have n0_ := aM (below_step (bU HB.out) hb); have n1_ := aM (hbox); have n2_ := aM ((by rw [hg]; exact (below_size (bU HB.out)) : w.heap.size ≤ gb307)); have n3_ := aM ((by rw [hg]; exact (below_size (bU HB.out)) : w.heap.size ≤ gb307)); clear HB; have HB := n0_; have BK307 := n1_; have GW307 := n2_; have GE307 := n3_; clear n0_ n1_ n2_ n3_; clear hb hbox hg; obtain ⟨hcz6_0, hcz6_1, hcz6_2, hfz6_0, hfz6_1, hfz6_2⟩ := cz3 BK307.out))
  go_ret
  exact ⟨by first | rfl | (simp [errW_none, errW_some] <;> rfl) | (simp [*, errW_none, errW_some] <;> rfl), bU HB.out⟩

end Go.Proofs.YtjeamaahhpbbkaaDoor.PAll
