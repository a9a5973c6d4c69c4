-- PRINTED by a session's own changed print
import Derived.Test.YtjeamaahhpbbkaaDoorPAllx0
import Derived.Test.YtjeamaahhpbbkaaDoorPAllx8
import Derived.Test.YtjeamaahhpbbkaaDoorPAllx11
import Derived.Test.YtjeamaahhpbbkaaDoorPAllx13
namespace Go.Proofs.YtjeamaahhpbbkaaDoor.PAll
open Go.RowKit Go.Proofs.YtjeamaahhpbbkaaDoorW.PrintWords Go.Proofs.YtjeamaahhpbbkaaDoorW.PrintLast
set_option linter.unusedVariables false
set_option linter.unusedSimpArgs false

/-! ### party_controlled: function 31 -/
mutual
def party_controlled.l0 : Nat → Int → List Bool → Bool → List Int → List (S36) → List (S38) → Option (List Bool)
 | 0, _, _, _, _, _, _ => none
 | k + 1, x1, x5, x6, x498000, x498001, x498002 => if x6 = true then (if 0 ≤ (x498000.length : Int) then (if ((x498000.length : Int) : Int).toNat ≤ 7036874417766 then (party_controlled.l1 k x1 x5 false (List.replicate ((x498000.length : Int) : Int).toNat z33) x498001 (x498001.length : Int) 0 x498000 x498001 x498002) else (none)) else (none)) else (some x5)
def party_controlled.l1 : Nat → Int → List Bool → Bool → List (S33) → List (S36) → Int → Int → List Int → List (S36) → List (S38) → Option (List Bool)
 | 0, _, _, _, _, _, _, _, _, _, _ => none
 | k + 1, x1, x5, x6, x7, x22, x23, x24, x498000, x498001, x498002 => if x24 < x23 then (if 0 ≤ x24 then (if x24 < (x22.length : Int) then (if ((rd_T36 x22 x24).f0) = x1 then (if 0 ≤ ((rd_T36 x22 x24).f1) then (if ((rd_T36 x22 x24).f1) < (x7.length : Int) then ((rational_Add.f k ((rd_T33 x7 ((rd_T36 x22 x24).f1)).f0) ((rd_T33 x7 ((rd_T36 x22 x24).f1)).f1) ((rd_T33 x7 ((rd_T36 x22 x24).f1)).f2) ((rd_T36 x22 x24).f2.f0) ((rd_T36 x22 x24).f2.f1) ((rd_T36 x22 x24).f2.f2)).bind fun bt507 => (party_controlled.l1 k x1 x5 x6 (x7.set (((rd_T36 x22 x24).f1) : Int).toNat (⟨bt507.1, bt507.2.1, bt507.2.2⟩ : S33)) x22 x23 (wrap64 (x24 + 1)) x498000 x498001 x498002)) else (none)) else (none)) else (if 0 ≤ ((rd_T36 x22 x24).f0) then (if ((rd_T36 x22 x24).f0) < (x5.length : Int) then (if rdOf false x5 ((rd_T36 x22 x24).f0) = true then (if 0 ≤ ((rd_T36 x22 x24).f1) then (if ((rd_T36 x22 x24).f1) < (x7.length : Int) then ((rational_Add.f k ((rd_T33 x7 ((rd_T36 x22 x24).f1)).f0) ((rd_T33 x7 ((rd_T36 x22 x24).f1)).f1) ((rd_T33 x7 ((rd_T36 x22 x24).f1)).f2) ((rd_T36 x22 x24).f2.f0) ((rd_T36 x22 x24).f2.f1) ((rd_T36 x22 x24).f2.f2)).bind fun bt513 => (party_controlled.l1 k x1 x5 x6 (x7.set (((rd_T36 x22 x24).f1) : Int).toNat (⟨bt513.1, bt513.2.1, bt513.2.2⟩ : S33)) x22 x23 (wrap64 (x24 + 1)) x498000 x498001 x498002)) else (none)) else (none)) else (party_controlled.l1 k x1 x5 x6 x7 x22 x23 (wrap64 (x24 + 1)) x498000 x498001 x498002)) else (none)) else (none))) else (none)) else (none)) else (party_controlled.l2 k x1 x5 x6 x7 (x7.length : Int) 0 x498000 x498001 x498002)
def party_controlled.l2 : Nat → Int → List Bool → Bool → List (S33) → Int → Int → List Int → List (S36) → List (S38) → Option (List Bool)
 | 0, _, _, _, _, _, _, _, _, _ => none
 | k + 1, x1, x5, x6, x52, x53, x54, x498000, x498001, x498002 => if x54 < x53 then (if 0 ≤ x54 then (if x54 < (x52.length : Int) then (if x54 = x1 then (party_controlled.l2 k x1 x5 x6 x52 x53 (wrap64 (x54 + 1)) x498000 x498001 x498002) else (if x54 < (x5.length : Int) then (if rdOf false x5 x54 = true then (party_controlled.l2 k x1 x5 x6 x52 x53 (wrap64 (x54 + 1)) x498000 x498001 x498002) else ((party_half.f k).bind fun bt520 => ((rational_Compare.f k ((rd_T33 x52 x54).f0) ((rd_T33 x52 x54).f1) ((rd_T33 x52 x54).f2) bt520.1 bt520.2.1 bt520.2.2).bind fun t523 => (if t523 > 0 then (party_controlled.l2 k x1 (x5.set (x54 : Int).toNat true) true x52 x53 (wrap64 (x54 + 1)) x498000 x498001 x498002) else (party_controlled.l2 k x1 x5 x6 x52 x53 (wrap64 (x54 + 1)) x498000 x498001 x498002))))) else (none))) else (none)) else (none)) else (party_controlled.l0 k x1 x5 x6 x498000 x498001 x498002)
end
def party_controlled.f (k : Nat) (l0_0 : List Int) (l0_1 : List (S36)) (l0_2 : List (S38)) (a1 : Int) : Option (List Bool) := if 0 ≤ (l0_0.length : Int) then (if ((l0_0.length : Int) : Int).toNat ≤ 281474976710656 then (party_controlled.l0 k a1 (List.replicate ((l0_0.length : Int) : Int).toNat false) true l0_0 l0_1 l0_2) else (none)) else (none)
theorem party_controlled.mono_l : ∀ k, (∀ y0 y1 y2 y3 y4 y5, LeO (party_controlled.l0 k y0 y1 y2 y3 y4 y5) (party_controlled.l0 (k + 1) y0 y1 y2 y3 y4 y5)) ∧ (∀ y0 y1 y2 y3 y4 y5 y6 y7 y8 y9, LeO (party_controlled.l1 k y0 y1 y2 y3 y4 y5 y6 y7 y8 y9) (party_controlled.l1 (k + 1) y0 y1 y2 y3 y4 y5 y6 y7 y8 y9)) ∧ (∀ y0 y1 y2 y3 y4 y5 y6 y7 y8, LeO (party_controlled.l2 k y0 y1 y2 y3 y4 y5 y6 y7 y8) (party_controlled.l2 (k + 1) y0 y1 y2 y3 y4 y5 y6 y7 y8))
 | 0 => ⟨fun _ _ _ _ _ _ r h => by simp [party_controlled.l0] at h, fun _ _ _ _ _ _ _ _ _ _ r h => by simp [party_controlled.l1] at h, fun _ _ _ _ _ _ _ _ _ r h => by simp [party_controlled.l2] at h⟩
 | k + 1 => by
  obtain ⟨ih0, ih1, ih2⟩ := party_controlled.mono_l k
  refine ⟨?_, ?_, ?_⟩
  ·intro y0 y1 y2 y3 y4 y5
   unfold party_controlled.l0
   repeat' first
   | (with_reducible exact ih0 _ _ _ _ _ _)
   | (with_reducible exact ih1 _ _ _ _ _ _ _ _ _ _)
   | (with_reducible exact ih2 _ _ _ _ _ _ _ _ _)
   | (with_reducible exact party_half.mono _)
   | (with_reducible exact rational_Add.mono _ _ _ _ _ _ _)
   | (with_reducible exact rational_Compare.mono _ _ _ _ _ _ _)
   | (with_reducible exact LeO.refl _)
   | (with_reducible exact LeO.none _)
   | (with_reducible refine LeO.ite ?_ ?_)
   | (with_reducible refine LeO.bind ?_ (fun _ => ?_))
   | exact LeO.none _
   | refine LeO.ite ?_ ?_
   | refine LeO.bind ?_ (fun _ => ?_)
  ·intro y0 y1 y2 y3 y4 y5 y6 y7 y8 y9
   unfold party_controlled.l1
   repeat' first
   | (with_reducible exact ih0 _ _ _ _ _ _)
   | (with_reducible exact ih1 _ _ _ _ _ _ _ _ _ _)
   | (with_reducible exact ih2 _ _ _ _ _ _ _ _ _)
   | (with_reducible exact party_half.mono _)
   | (with_reducible exact rational_Add.mono _ _ _ _ _ _ _)
   | (with_reducible exact rational_Compare.mono _ _ _ _ _ _ _)
   | (with_reducible exact LeO.refl _)
   | (with_reducible exact LeO.none _)
   | (with_reducible refine LeO.ite ?_ ?_)
   | (with_reducible refine LeO.bind ?_ (fun _ => ?_))
   | exact LeO.none _
   | refine LeO.ite ?_ ?_
   | refine LeO.bind ?_ (fun _ => ?_)
  ·intro y0 y1 y2 y3 y4 y5 y6 y7 y8
   unfold party_controlled.l2
   repeat' first
   | (with_reducible exact ih0 _ _ _ _ _ _)
   | (with_reducible exact ih1 _ _ _ _ _ _ _ _ _ _)
   | (with_reducible exact ih2 _ _ _ _ _ _ _ _ _)
   | (with_reducible exact party_half.mono _)
   | (with_reducible exact rational_Add.mono _ _ _ _ _ _ _)
   | (with_reducible exact rational_Compare.mono _ _ _ _ _ _ _)
   | (with_reducible exact LeO.refl _)
   | (with_reducible exact LeO.none _)
   | (with_reducible refine LeO.ite ?_ ?_)
   | (with_reducible refine LeO.bind ?_ (fun _ => ?_))
   | exact LeO.none _
   | refine LeO.ite ?_ ?_
   | refine LeO.bind ?_ (fun _ => ?_)
theorem party_controlled.mono : ∀ a0 a1 a2 a3 k, LeO (party_controlled.f k a0 a1 a2 a3) (party_controlled.f (k + 1) a0 a1 a2 a3) := by
 intro a0 a1 a2 a3 k
 obtain ⟨ih0, ih1, ih2⟩ := party_controlled.mono_l k
 unfold party_controlled.f
 repeat' first
   | (with_reducible exact ih0 _ _ _ _ _ _)
   | (with_reducible exact ih1 _ _ _ _ _ _ _ _ _ _)
   | (with_reducible exact ih2 _ _ _ _ _ _ _ _ _)
   | (with_reducible exact party_half.mono _)
   | (with_reducible exact rational_Add.mono _ _ _ _ _ _ _)
   | (with_reducible exact rational_Compare.mono _ _ _ _ _ _ _)
   | (with_reducible exact LeO.refl _)
   | (with_reducible exact LeO.none _)
   | (with_reducible refine LeO.ite ?_ ?_)
   | (with_reducible refine LeO.bind ?_ (fun _ => ?_))
   | exact LeO.none _
   | refine LeO.ite ?_ ?_
   | refine LeO.bind ?_ (fun _ => ?_)
def party_controlled.T10 : Bool × List (List Nat × List Nat) := (true, [([], []), ([], []), ([1], [1]), ([], []), ([], []), ([4], [4]), ([3, 5], [3, 5]), ([6], [6]), ([], []), ([8], [8]), ([7, 9], [7, 9]), ([0, 2, 0, 1, 2, 3, 4, 5, 6, 7, 8, 9, 10], [0, 2]), ([11, 10, 10, 0, 1, 2, 3, 4, 5, 6, 7, 8, 9, 10], [10, 11])])
def party_controlled.B10 : List Nat := [0, 0, 2, 0, 0, 16, 56, 120, 0, 256, 1016, 2047, 4095]
theorem party_controlled.tab10 : rtab .any (opsOf Tryd.f31 10) = party_controlled.T10 := by kernel_rfl
theorem party_controlled.bits10 : waitsOk party_controlled.T10.2 party_controlled.B10 = true := by kernel_rfl
def party_controlled.T15 : Bool × List (List Nat × List Nat) := (true, [([], []), ([], []), ([0, 1], [0, 1]), ([2], [2]), ([3], [3]), ([3], [3]), ([4, 5, 3], [3, 4, 5]), ([6, 3], [3, 6]), ([7, 3], [3, 7]), ([3, 8], [3, 8]), ([9, 3], [9]), ([10], [10]), ([10, 10], [10]), ([11, 12, 12, 10], [10, 11, 12]), ([13, 10], [10, 13]), ([10, 14], [10, 14])])
def party_controlled.B15 : List Nat := [0, 0, 3, 7, 15, 15, 63, 127, 255, 511, 1023, 2047, 2047, 8191, 16383, 32767]
theorem party_controlled.tab15 : rtab .any (opsOf Tryd.f31 15) = party_controlled.T15 := by kernel_rfl
theorem party_controlled.bits15 : waitsOk party_controlled.T15.2 party_controlled.B15 = true := by kernel_rfl
set_option maxHeartbeats 8000000 in
set_option maxRecDepth 100000 in
theorem party_controlled.calls (k : Nat) (A0_0 : Option Addr) (c0_0 : Nat) (l0_0 : List Int) (A0_1 : Option Addr) (c0_1 : Nat) (l0_1 : List (S36)) (A0_2 : Option Addr) (c0_2 : Nat) (l0_2 : List (S38)) (a1 : Int) (r : List Bool) (w : World) (hr0_0 : Kd.C (Kd.int .i64) w A0_0 l0_0.length l0_0) (hc0_0 : l0_0.length ≤ c0_0) (hr0_1 : Kd.C k36 w A0_1 l0_1.length l0_1) (hc0_1 : l0_1.length ≤ c0_1) (hr0_2 : Kd.C k38 w A0_2 l0_2.length l0_2) (hc0_2 : l0_2.length ≤ c0_2) (h : party_controlled.f k l0_0 l0_1 l0_2 a1 = some r) :
  Calls Tryd.prog 31 #[.agg #[.slice A0_0 l0_0.length c0_0, .slice A0_1 l0_1.length c0_1, .slice A0_2 l0_2.length c0_2], .int .i64 a1] w fun e w' => ∃ v0_ : Value, e = .returned (v0_) ∧ Kd.R Kd.bool 4 w' w.heap.size (fun _ => True) v0_ r ∧ Below w.heap.size w w' := by
 have hu26 := Tryd.underlying26
 have hu36 := Tryd.underlying36
 have hu33 := Tryd.underlying33
 have HR0_0 := Aside0.mk hr0_0
 have HC0_0 := Aside0.mk hc0_0
 clear hr0_0 hc0_0
 have HR0_1 := Aside0.mk hr0_1
 have HC0_1 := Aside0.mk hc0_1
 clear hr0_1 hc0_1
 have HR0_2 := Aside0.mk hr0_2
 have HC0_2 := Aside0.mk hc0_2
 clear hr0_2 hc0_2
 have HB := aM (Below.refl w.heap.size w)
 have H : (if 0 ≤ (l0_0.length : Int) then (if ((l0_0.length : Int) : Int).toNat ≤ 281474976710656 then (party_controlled.l0 k a1 (List.replicate ((l0_0.length : Int) : Int).toNat false) true l0_0 l0_1 l0_2) else (none)) else (none)) = some r := h
 clear h
 by_cases c3 : 0 ≤ (l0_0.length : Int)
 ·rw [if_pos c3] at H
  have c3b0 := eq_true c3
  have c3b1 := decide_eq_true c3
  clear c3
  by_cases c4 : ((l0_0.length : Int) : Int).toNat ≤ 281474976710656
  ·rw [if_pos c4] at H
   have c4b0 := eq_true c4
   have c4b1 := decide_eq_true c4
   clear c4
   obtain ⟨y498, hy498⟩ : ∃ y_ : List Bool, y_ = (List.replicate ((l0_0.length : Int) : Int).toNat false) := ⟨_, rfl⟩
   replace H : (party_controlled.l0 k a1 y498 true l0_0 l0_1 l0_2) = some r := by first | (rw [hy498]; with_reducible exact H) | (have H2_ := (Option.bind_some _ _).symm.trans H; rw [hy498]; with_reducible exact H2_) | (have H2_ := (Option.bind_some _ _).symm.trans H; with_reducible exact H2_) | with_reducible exact H | (rw [hy498]; exact H) | exact H
   have Ny498 := Aside0.mk hy498
   clear hy498
   have H' := Aside0.mk H
   clear H
   go_enter Tryd.func31, Tryd.ntmps31
   go_wp2_with (first | ((with_reducible refine gate_dst (N := 2) rfl ?_); refine box_event ?hg (N := 2) ?hd (cs := #[.slice A0_0 l0_0.length c0_0, .slice A0_1 l0_1.length c0_1, .slice A0_2 l0_2.length c0_2]) (t := 26) ?hr ?_; (case hd => rfl); (case hg => rfl); (case hr => first | (go_simp; done) | (go_simp; rfl)); intro gb497 hg w5 hbox hb; have n0_ := aM (below_step (bU HB.out) hb); have n1_ := aM (hbox); have n2_ := aM ((by rw [hg]; exact (below_size (bU HB.out)) : w.heap.size ≤ gb497)); have n3_ := aM ((by rw [hg]; exact (below_size (bU HB.out)) : w.heap.size ≤ gb497)); clear HB; have HB := n0_; have BK497 := n1_; have GW497 := n2_; have GE497 := n3_; clear n0_ n1_ n2_ n3_; clear hb hbox hg; obtain ⟨hcz6_0, hcz6_1, hcz6_2, hfz6_0, hfz6_1, hfz6_2⟩ := cz3 BK497.out) | ((with_reducible refine gate_dst (N := 15) rfl ?_); refine Kd.R_make Kd.bool _ 4 rfl (N := 15) rfl 68 _ _ rfl (l0_0.length : Int) rfl rfl Tryd.underlying68 (.bool false) 1 info4 rfl (by decide) (by omega) false (ok := fun _ => True) (okp := fun _ => True) rfl (fun _ hk => hk) trivial (oD) (Nat.le_trans (Nat.mul_le_mul_right _ (oD : (l0_0.length : Int).toNat ≤ 281474976710656)) (by omega)) (Below.refl _ _) (Nat.le_refl _) ?_; intro v499 w7 ho8 hb hg_ hnew_; clear hg_ hnew_; (first | rw [← Ny498.out] at ho8 | (simp only [Int.reduceToNat] at ho8; rw [← Ny498.out] at ho8)); have n0_ := aM (Kd.R_lower ho8 (below_size (bU HB.out))); have n1_ := aM (blk_below (kU BK497.out) hb); have n2_ := aM (below_step (bU HB.out) hb); clear BK497; clear HB; have HO500 := n0_; have BK497 := n1_; have HB := n2_; clear n0_ n1_ n2_; clear hb ho8))
   go_loopg [6] k (fun kq v6 w' => ∃ (x5_1 : List Bool) (x6_1 : Bool), v6 = .bool x6_1 ∧ Aside0 (party_controlled.l0 kq a1 x5_1 x6_1 l0_0 l0_1 l0_2 = some r) ∧ Aside0 (kq ≤ k) ∧ Aside0 (Kd.R Kd.bool 4 w' w.heap.size (fun _ => True) v499 x5_1) ∧ Aside0 (w'.heap[gb497]? = some (.cells #[(.slice A0_0 l0_0.length c0_0), (.slice A0_1 l0_1.length c0_1), (.slice A0_2 l0_2.length c0_2)] 26 (0, 0))) ∧ Aside0 (Below w.heap.size w w'))
   case atStart => exact ⟨(y498), (true), (by first | rfl | (simp; done) | (simp [*]; done)), H', ⟨Nat.le_refl _⟩, ⟨Kd.R_up HO500.out⟩, ⟨kU BK497.out⟩, ⟨bU HB.out⟩⟩
   case round =>
    clear H'
    (try clear p2); (try clear c3); (try clear c3b0); (try clear c3b1); (try clear c4); (try clear c4b0); (try clear c4b1); (try clear hcz6_0 hcz6_1 hcz6_2); (try clear hfz6_0 hfz6_1 hfz6_2)
    obtain ⟨x5_1, x6_1, rfl, HA, HK1, HO_5, BK497, HB⟩ := hrel
    cases gk with
    | zero => exact absurd HA.out (by simp [party_controlled.l0])
    | succ k1 =>
     have H := HA.out
     clear HA
     simp only [party_controlled.l0] at H
     by_cases c9 : x6_1 = true
     ·subst c9
      have H1 : (if 0 ≤ (l0_0.length : Int) then (if ((l0_0.length : Int) : Int).toNat ≤ 7036874417766 then (party_controlled.l1 k1 a1 x5_1 false (List.replicate ((l0_0.length : Int) : Int).toNat z33) l0_1 (l0_1.length : Int) 0 l0_0 l0_1 l0_2) else (none)) else (none)) = some r := by rw [if_pos rfl] at H; exact H
      clear H
      have H := H1
      clear H1
      by_cases c10 : 0 ≤ (l0_0.length : Int)
      ·rw [if_pos c10] at H
       have c10b0 := eq_true c10
       have c10b1 := decide_eq_true c10
       clear c10
       by_cases c11 : ((l0_0.length : Int) : Int).toNat ≤ 7036874417766
       ·rw [if_pos c11] at H
        have c11b0 := eq_true c11
        have c11b1 := decide_eq_true c11
        clear c11
        obtain ⟨y501, hy501⟩ : ∃ y_ : List (S33), y_ = (List.replicate ((l0_0.length : Int) : Int).toNat z33) := ⟨_, rfl⟩
        replace H : (party_controlled.l1 k1 a1 x5_1 false y501 l0_1 (l0_1.length : Int) 0 l0_0 l0_1 l0_2) = some r := by first | (rw [hy501]; with_reducible exact H) | (have H2_ := (Option.bind_some _ _).symm.trans H; rw [hy501]; with_reducible exact H2_) | (have H2_ := (Option.bind_some _ _).symm.trans H; with_reducible exact H2_) | with_reducible exact H | (rw [hy501]; exact H) | exact H
        have Ny501 := Aside0.mk hy501
        clear hy501
        have H' := Aside0.mk H
        clear H
        obtain ⟨hcz12_0, hcz12_1, hcz12_2, hfz12_0, hfz12_1, hfz12_2⟩ := cz3 BK497.out
        go_wp2_with (first | ((with_reducible refine gate_dst (N := 20) rfl ?_); refine Kd.R_make k33 _ 33 rfl (N := 20) rfl 57 _ _ rfl (l0_0.length : Int) rfl rfl Tryd.underlying57 (.agg #[(.bool false), (.string ⟨#[]⟩), (.string ⟨#[]⟩)]) 40 info33 rfl (by decide) (by omega) z33 (ok := fun _ => True) (okp := fun _ => True) (k33_mkM _ _ _ z33 ) (fun _ hk => hk) trivial (oD) (Nat.le_trans (Nat.mul_le_mul_right _ (oD : (l0_0.length : Int).toNat ≤ 7036874417766)) (by omega)) (Below.refl _ _) (Nat.le_refl _) ?_; intro v502 w13 ho14 hb hg_ hnew_; clear hg_ hnew_; (first | rw [← Ny501.out] at ho14 | (simp only [Int.reduceToNat] at ho14; rw [← Ny501.out] at ho14)); have n0_ := aM (Kd.R_below (Kd.R_up HO_5.out) hb); have n1_ := aM (Kd.R_lower ho14 (below_size (bU HB.out))); have n2_ := aM (blk_below (kU BK497.out) hb); have n3_ := aM (below_step (bU HB.out) hb); clear HO_5; clear BK497; clear HB; have HO_5 := n0_; have HO503 := n1_; have BK497 := n2_; have HB := n3_; clear n0_ n1_ n2_ n3_; clear hb ho14; obtain ⟨hcz15_0, hcz15_1, hcz15_2, hfz15_0, hfz15_1, hfz15_2⟩ := cz3 BK497.out))
        go_loopg [24] k1 (fun kq v24 w' => ∃ (x7_2 : List (S33)) (x24_2 : Int), v24 = .int .i64 x24_2 ∧ Aside0 (party_controlled.l1 kq a1 x5_1 false x7_2 l0_1 (l0_1.length : Int) x24_2 l0_0 l0_1 l0_2 = some r) ∧ Aside0 (kq ≤ k1) ∧ Aside0 (Kd.R Kd.bool 4 w' w.heap.size (fun _ => True) v499 x5_1) ∧ Aside0 (Kd.R k33 33 w' w.heap.size (fun _ => True) v502 x7_2) ∧ Aside0 (w'.heap[gb497]? = some (.cells #[(.slice A0_0 l0_0.length c0_0), (.slice A0_1 l0_1.length c0_1), (.slice A0_2 l0_2.length c0_2)] 26 (0, 0))) ∧ Aside0 (Below w.heap.size w w'))
        case atStart => exact ⟨(y501), (0), (by first | rfl | (simp; done) | (simp [*]; done)), H', ⟨Nat.le_refl _⟩, ⟨Kd.R_up HO_5.out⟩, ⟨Kd.R_up HO503.out⟩, ⟨kU BK497.out⟩, ⟨bU HB.out⟩⟩
        case round =>
         clear H'
         (try clear c1); (try clear p2); (try clear c3); (try clear c3b0); (try clear c3b1); (try clear c4); (try clear c4b0); (try clear c4b1); (try clear c9); (try clear c10); (try clear c10b0); (try clear c10b1); (try clear c11); (try clear c11b0); (try clear c11b1); (try clear hcz12_0 hcz12_1 hcz12_2); (try clear hcz15_0 hcz15_1 hcz15_2); (try clear hcz6_0 hcz6_1 hcz6_2); (try clear hfz12_0 hfz12_1 hfz12_2); (try clear hfz15_0 hfz15_1 hfz15_2); (try clear hfz6_0 hfz6_1 hfz6_2); (try clear p2)
         obtain ⟨x7_2, x24_2, rfl, HA, HK2, HO_5, HO_7, BK497, HB⟩ := hrel
         cases gk with
         | zero => exact absurd HA.out (by simp [party_controlled.l1])
         | succ k2 =>
          have H := HA.out
          clear HA
          simp only [party_controlled.l1] at H
          by_cases c16 : x24_2 < (l0_1.length : Int)
          ·rw [if_pos c16] at H
           have c16b0 := decide_eq_true c16
           clear c16
           by_cases c17 : 0 ≤ x24_2
           ·rw [if_pos c17] at H
            have c17b0 := decide_eq_true c17
            clear c17
            by_cases c18 : x24_2 < (l0_1.length : Int)
            ·rw [if_pos c18] at H
             have c18b0 := decide_eq_true c18
             clear c18
             by_cases c19 : ((rd_T36 l0_1 x24_2).f0) = a1
             ·rw [if_pos c19] at H
              have c19b0 : (((rd_T36 l0_1 x24_2).f0) == a1) = true := beq_iff_eq.mpr c19
              have c19b1 : (((rd_T36 l0_1 x24_2).f0) != a1) = false := bne_eq_false_iff_eq.mpr c19
              clear c19
              by_cases c20 : 0 ≤ ((rd_T36 l0_1 x24_2).f1)
              ·rw [if_pos c20] at H
               have c20b0 := decide_eq_true c20
               clear c20
               by_cases c21 : ((rd_T36 l0_1 x24_2).f1) < (x7_2.length : Int)
               ·rw [if_pos c21] at H
                have c21b0 := decide_eq_true c21
                clear c21
                replace H := bE H
                obtain ⟨⟨t507, t508, t509⟩, A220, H⟩ := H
                replace H : (party_controlled.l1 k2 a1 x5_1 false (x7_2.set (((rd_T36 l0_1 x24_2).f1) : Int).toNat (⟨t507, t508, t509⟩ : S33)) l0_1 (l0_1.length : Int) (wrap64 (x24_2 + 1)) l0_0 l0_1 l0_2) = some r := H
                have A22 := Aside0.mk A220
                clear A220
                obtain ⟨y510, hy510⟩ : ∃ y_ : List (S33), y_ = (x7_2.set (((rd_T36 l0_1 x24_2).f1) : Int).toNat (⟨t507, t508, t509⟩ : S33)) := ⟨_, rfl⟩
                replace H : (party_controlled.l1 k2 a1 x5_1 false y510 l0_1 (l0_1.length : Int) (wrap64 (x24_2 + 1)) l0_0 l0_1 l0_2) = some r := by first | (rw [hy510]; with_reducible exact H) | (have H2_ := (Option.bind_some _ _).symm.trans H; rw [hy510]; with_reducible exact H2_) | (have H2_ := (Option.bind_some _ _).symm.trans H; with_reducible exact H2_) | with_reducible exact H | (rw [hy510]; exact H) | exact H
                have Ny510 := Aside0.mk hy510
                clear hy510
                have H' := Aside0.mk H
                clear H
                have p504 : 0 ≤ (x24_2 : Int) := oD
                have q504 : x24_2 < (l0_1.length : Int) := oD
                obtain ⟨ad504, e504, hx504_0, hx504_1, hx504_2, hx504_3, hx504_4⟩ := at_T36 HR0_1.out x24_2 p504 q504
                cases e504
                replace hx504_0 := (HB.out.cell (World.block_lt_of_cell? w _ hx504_0)).trans hx504_0
                replace hx504_1 := (HB.out.cell (World.block_lt_of_cell? w _ hx504_1)).trans hx504_1
                replace hx504_2 := (HB.out.cell (World.block_lt_of_cell? w _ hx504_2)).trans hx504_2
                replace hx504_3 := (HB.out.cell (World.block_lt_of_cell? w _ hx504_3)).trans hx504_3
                replace hx504_4 := (HB.out.cell (World.block_lt_of_cell? w _ hx504_4)).trans hx504_4
                replace p504 := eq_true p504
                replace q504 := eq_true q504
                try go_wp2_with (first | ((with_reducible refine gate_dst (N := 9) rfl ?_); refine box_event ?hg (N := 9) ?hd (cs := #[.int .i64 0, .int .i64 0, .bool false, .string (⟨#[]⟩ : ByteArray), .string (⟨#[]⟩ : ByteArray)]) (t := 36) ?hr ?_; (case hd => rfl); (case hg => rfl); (case hr => first | (go_simp; done) | (go_simp; rfl)); intro gb505 hg w24 hbox hb; have n0_ := aM (Kd.R_below (Kd.R_up HO_5.out) hb); have n1_ := aM (Kd.R_below (Kd.R_up HO_7.out) hb); have n2_ := aM (blk_below (kU BK497.out) hb); have n3_ := aM (below_step (bU HB.out) hb); have n4_ := aM (hbox); have n5_ := aM ((by rw [hg]; exact (below_size (bU HB.out)) : w.heap.size ≤ gb505)); have n6_ := aM ((by rw [hg]; exact (below_size (bU HB.out)) : w.heap.size ≤ gb505)); have n7_ := aM ((by rw [hg]; exact Nat.ne_of_lt (blk_lt (kU BK497.out)) : gb497 ≠ gb505)); have n8_ := aM ((by rw [hg]; exact Nat.ne_of_gt (blk_lt (kU BK497.out)) : gb505 ≠ gb497)); clear HO_5; clear HO_7; clear BK497; clear HB; have HO_5 := n0_; have HO_7 := n1_; have BK497 := n2_; have HB := n3_; have BK505 := n4_; have GW505 := n5_; have GE505 := n6_; have NB497_505 := n7_; have NB505_497 := n8_; clear n0_ n1_ n2_ n3_ n4_ n5_ n6_ n7_ n8_; clear hb hbox hg; have hnb25 := NB505_497.out; have hnc25 := NB497_505.out; obtain ⟨hcz26_0, hcz26_1, hcz26_2, hcz26_3, hcz26_4, hfz26_0, hfz26_1, hfz26_2, hfz26_3, hfz26_4⟩ := cz5 BK505.out))
                have n0_ : Aside0 (Kd.R Kd.bool 4 (((((w24.setCell ⟨gb505, 0, none⟩ (.int .i64 ((rd_T36 l0_1 x24_2).f0))).setCell ⟨gb505, 1, none⟩ (.int .i64 ((rd_T36 l0_1 x24_2).f1))).setCell ⟨gb505, 2, none⟩ (.bool ((rd_T36 l0_1 x24_2).f2.f0))).setCell ⟨gb505, 3, none⟩ (.string ((rd_T36 l0_1 x24_2).f2.f1))).setCell ⟨gb505, 4, none⟩ (.string ((rd_T36 l0_1 x24_2).f2.f2))) w.heap.size (fun _ => True) v499 x5_1) := ⟨Kd.R_up (Kd.R_mono (Kd.R_far (p := ⟨gb505, 4, none⟩) (Kd.R_far (p := ⟨gb505, 3, none⟩) (Kd.R_far (p := ⟨gb505, 2, none⟩) (Kd.R_far (p := ⟨gb505, 1, none⟩) (Kd.R_far (p := ⟨gb505, 0, none⟩) (Kd.R_types HO_5.out BK505.out (by decide)) (fun _ hk => hk.2) (.int .i64 ((rd_T36 l0_1 x24_2).f0))) (fun _ hk => hk.2) (.int .i64 ((rd_T36 l0_1 x24_2).f1))) (fun _ hk => hk.2) (.bool ((rd_T36 l0_1 x24_2).f2.f0))) (fun _ hk => hk.2) (.string ((rd_T36 l0_1 x24_2).f2.f1))) (fun _ hk => hk.2) (.string ((rd_T36 l0_1 x24_2).f2.f2))) (fun _ hk => trivial))⟩
                have n1_ : Aside0 (Kd.R k33 33 (((((w24.setCell ⟨gb505, 0, none⟩ (.int .i64 ((rd_T36 l0_1 x24_2).f0))).setCell ⟨gb505, 1, none⟩ (.int .i64 ((rd_T36 l0_1 x24_2).f1))).setCell ⟨gb505, 2, none⟩ (.bool ((rd_T36 l0_1 x24_2).f2.f0))).setCell ⟨gb505, 3, none⟩ (.string ((rd_T36 l0_1 x24_2).f2.f1))).setCell ⟨gb505, 4, none⟩ (.string ((rd_T36 l0_1 x24_2).f2.f2))) w.heap.size (fun _ => True) v502 x7_2) := ⟨Kd.R_up (Kd.R_mono (Kd.R_far (p := ⟨gb505, 4, none⟩) (Kd.R_far (p := ⟨gb505, 3, none⟩) (Kd.R_far (p := ⟨gb505, 2, none⟩) (Kd.R_far (p := ⟨gb505, 1, none⟩) (Kd.R_far (p := ⟨gb505, 0, none⟩) (Kd.R_types HO_7.out BK505.out (by decide)) (fun _ hk => hk.2) (.int .i64 ((rd_T36 l0_1 x24_2).f0))) (fun _ hk => hk.2) (.int .i64 ((rd_T36 l0_1 x24_2).f1))) (fun _ hk => hk.2) (.bool ((rd_T36 l0_1 x24_2).f2.f0))) (fun _ hk => hk.2) (.string ((rd_T36 l0_1 x24_2).f2.f1))) (fun _ hk => hk.2) (.string ((rd_T36 l0_1 x24_2).f2.f2))) (fun _ hk => trivial))⟩
                have n2_ : Aside0 ((((((w24.setCell ⟨gb505, 0, none⟩ (.int .i64 ((rd_T36 l0_1 x24_2).f0))).setCell ⟨gb505, 1, none⟩ (.int .i64 ((rd_T36 l0_1 x24_2).f1))).setCell ⟨gb505, 2, none⟩ (.bool ((rd_T36 l0_1 x24_2).f2.f0))).setCell ⟨gb505, 3, none⟩ (.string ((rd_T36 l0_1 x24_2).f2.f1))).setCell ⟨gb505, 4, none⟩ (.string ((rd_T36 l0_1 x24_2).f2.f2))).heap[gb497]? = some (.cells #[.slice A0_0 l0_0.length c0_0, .slice (some ad504) l0_1.length c0_1, .slice A0_2 l0_2.length c0_2] 26 (0, 0))) := ⟨kP BK497.out⟩
                have n3_ : Aside0 ((((((w24.setCell ⟨gb505, 0, none⟩ (.int .i64 ((rd_T36 l0_1 x24_2).f0))).setCell ⟨gb505, 1, none⟩ (.int .i64 ((rd_T36 l0_1 x24_2).f1))).setCell ⟨gb505, 2, none⟩ (.bool ((rd_T36 l0_1 x24_2).f2.f0))).setCell ⟨gb505, 3, none⟩ (.string ((rd_T36 l0_1 x24_2).f2.f1))).setCell ⟨gb505, 4, none⟩ (.string ((rd_T36 l0_1 x24_2).f2.f2))).heap[gb505]? = some (.cells #[.int .i64 ((rd_T36 l0_1 x24_2).f0), .int .i64 ((rd_T36 l0_1 x24_2).f1), .bool ((rd_T36 l0_1 x24_2).f2.f0), .string ((rd_T36 l0_1 x24_2).f2.f1), .string ((rd_T36 l0_1 x24_2).f2.f2)] 36 (0, 0))) := ⟨kP BK505.out⟩
                have n4_ : Aside0 (Below w.heap.size w (((((w24.setCell ⟨gb505, 0, none⟩ (.int .i64 ((rd_T36 l0_1 x24_2).f0))).setCell ⟨gb505, 1, none⟩ (.int .i64 ((rd_T36 l0_1 x24_2).f1))).setCell ⟨gb505, 2, none⟩ (.bool ((rd_T36 l0_1 x24_2).f2.f0))).setCell ⟨gb505, 3, none⟩ (.string ((rd_T36 l0_1 x24_2).f2.f1))).setCell ⟨gb505, 4, none⟩ (.string ((rd_T36 l0_1 x24_2).f2.f2)))) := ⟨bU HB.out⟩
                (try clear HO_5)
                (try clear HO_7)
                (try clear BK497)
                (try clear BK505)
                (try clear HB)
                generalize (((((w24.setCell ⟨gb505, 0, none⟩ (.int .i64 ((rd_T36 l0_1 x24_2).f0))).setCell ⟨gb505, 1, none⟩ (.int .i64 ((rd_T36 l0_1 x24_2).f1))).setCell ⟨gb505, 2, none⟩ (.bool ((rd_T36 l0_1 x24_2).f2.f0))).setCell ⟨gb505, 3, none⟩ (.string ((rd_T36 l0_1 x24_2).f2.f1))).setCell ⟨gb505, 4, none⟩ (.string ((rd_T36 l0_1 x24_2).f2.f2))) = w27 at n0_ n1_ n2_ n3_ n4_ ⊢
                have HO_5 := n0_
                have HO_7 := n1_
                have BK497 := n2_
                have BK505 := n3_
                have HB := n4_
                clear n0_ n1_ n2_ n3_ n4_
                have n0_ := aM (Kd.R_drew HO_5.out)
                have n1_ := aM (Kd.R_drew HO_7.out)
                have n2_ := aM (blk_drew BK497.out)
                have n3_ := aM (blk_drew BK505.out)
                have n4_ := aM (below_drew1 HB.out)
                clear HO_5
                clear HO_7
                clear BK497
                clear BK505
                clear HB
                have HO_5 := n0_
                have HO_7 := n1_
                have BK497 := n2_
                have BK505 := n3_
                have HB := n4_
                clear n0_ n1_ n2_ n3_ n4_
                obtain ⟨Ao29, co29, eo29⟩ := Kd.R_slice HO_7.out
                (first | subst eo29 | (injection eo29 with f1_ f2_ f3_; have f4_ := f1_.symm; have f5_ := f3_.symm; clear f1_ f2_ f3_; subst f4_; subst f5_))
                have p506 : 0 ≤ (((rd_T36 l0_1 x24_2).f1) : Int) := oD
                have q506 : ((rd_T36 l0_1 x24_2).f1) < (x7_2.length : Int) := oD
                obtain ⟨ad506, e506, hx506_0, hx506_1, hx506_2⟩ := at_T33 (Kd.R_reads' HO_7.out).2.2 ((rd_T36 l0_1 x24_2).f1) p506 q506
                cases e506
                replace p506 := eq_true p506
                replace q506 := eq_true q506
                refine start_ (n := 13) (S := fun w' => w'.cell? ⟨gb505, 0, none⟩ = some (.int .i64 ((rd_T36 l0_1 x24_2).f0)) ∧ w'.cell? ⟨gb505, 1, none⟩ = some (.int .i64 ((rd_T36 l0_1 x24_2).f1)) ∧ w'.cell? ⟨gb505, 2, none⟩ = some (.bool ((rd_T36 l0_1 x24_2).f2.f0)) ∧ w'.cell? ⟨gb505, 3, none⟩ = some (.string ((rd_T36 l0_1 x24_2).f2.f1)) ∧ w'.cell? ⟨gb505, 4, none⟩ = some (.string ((rd_T36 l0_1 x24_2).f2.f2)) ∧ w'.cell? (ad506.add ((((rd_T36 l0_1 x24_2).f1)).toNat * 3)) = some (.bool ((rd_T33 x7_2 ((rd_T36 l0_1 x24_2).f1)).f0)) ∧ w'.cell? ⟨(ad506.add ((((rd_T36 l0_1 x24_2).f1)).toNat * 3)).block, (ad506.add ((((rd_T36 l0_1 x24_2).f1)).toNat * 3)).off + 1, none⟩ = some (.string ((rd_T33 x7_2 ((rd_T36 l0_1 x24_2).f1)).f1)) ∧ w'.cell? ⟨(ad506.add ((((rd_T36 l0_1 x24_2).f1)).toNat * 3)).block, (ad506.add ((((rd_T36 l0_1 x24_2).f1)).toNat * 3)).off + 2, none⟩ = some (.string ((rd_T33 x7_2 ((rd_T36 l0_1 x24_2).f1)).f2))) (ds := [12]) #[false, false, false, false, false, false, false, false, false, false, false, false, false] (by kernel_rfl) rfl rfl ⟨(blk_cell BK505.out 0).trans rfl, (blk_cell BK505.out 1).trans rfl, (blk_cell BK505.out 2).trans rfl, (blk_cell BK505.out 3).trans rfl, (blk_cell BK505.out 4).trans rfl, hx506_0, hx506_1, hx506_2⟩ (fun hHeld => ?_); refine with_tabW party_controlled.tab10 party_controlled.bits10 (fun HT_ HW_ => ?_)
                generalize w27.drew = w28 at HO_5 HO_7 BK497 BK505 HB hx506_0 hx506_1 hx506_2 hHeld ⊢
                refine pureq (i := 0) (N := some 39) HT_.out rfl rfl ?_
                refine pureq (i := 1) (N := some 40) HT_.out rfl rfl ?_
                refine pureq (i := 3) (N := some 42) HT_.out rfl rfl ?_
                refine pureq (i := 4) (N := some 43) HT_.out rfl rfl ?_
                refine pureq (i := 8) (N := some 47) HT_.out rfl rfl ?_
                refine takeq (i := 2) (N := some 41) HT_.out HW_.out hHeld rfl rfl ?_
                refine takeq (i := 5) (N := some 44) HT_.out HW_.out hHeld rfl rfl ?_
                refine pureq (i := 6) (N := some 45) HT_.out rfl rfl ?_
                refine takeq (i := 7) (N := some 46) HT_.out HW_.out hHeld rfl rfl ?_
                refine takeq (i := 9) (N := some 48) HT_.out HW_.out hHeld rfl rfl ?_
                refine one_ (i := 10) (N := some 49) #[true, true, true, true, true, true, true, true, true, true, true, false, false] rfl rfl (one_of HT_.out (by kernel_rfl)) (by decide) (fun K hK => ?_)
                refine goesq Tryd.func23 #[.agg #[.bool ((rd_T33 x7_2 ((rd_T36 l0_1 x24_2).f1)).f0), .string ((rd_T33 x7_2 ((rd_T36 l0_1 x24_2).f1)).f1), .string ((rd_T33 x7_2 ((rd_T36 l0_1 x24_2).f1)).f2)], .agg #[.bool ((rd_T36 l0_1 x24_2).f2.f0), .string ((rd_T36 l0_1 x24_2).f2.f1), .string ((rd_T36 l0_1 x24_2).f2.f2)]] (by rfl) rfl rfl ?_
                with_reducible refine (rational_Add.calls k2 ((rd_T33 x7_2 ((rd_T36 l0_1 x24_2).f1)).f0) ((rd_T33 x7_2 ((rd_T36 l0_1 x24_2).f1)).f1) ((rd_T33 x7_2 ((rd_T36 l0_1 x24_2).f1)).f2) ((rd_T36 l0_1 x24_2).f2.f0) ((rd_T36 l0_1 x24_2).f2.f1) ((rd_T36 l0_1 x24_2).f2.f2) t507 t508 t509 _ A22.out).mono ?_
                rintro e w30 ⟨rfl, hb⟩
                have HS5_ := (hb.cell (World.block_lt_of_cell? _ _ (hHeld.2.2.2.2.2.1))).trans (hHeld.2.2.2.2.2.1)
                have HS6_ := (hb.cell (World.block_lt_of_cell? _ _ (hHeld.2.2.2.2.2.2.1))).trans (hHeld.2.2.2.2.2.2.1)
                have HS7_ := (hb.cell (World.block_lt_of_cell? _ _ (hHeld.2.2.2.2.2.2.2))).trans (hHeld.2.2.2.2.2.2.2)
                refine ⟨_, rfl, ?_⟩
                have n0_ := aM (Kd.R_below (Kd.R_up HO_5.out) hb)
                have n1_ := aM (Kd.R_below (Kd.R_up HO_7.out) hb)
                have n2_ := aM (blk_below (kU BK497.out) hb)
                have n3_ := aM (blk_below (kU BK505.out) hb)
                have n4_ := aM (below_step (bU HB.out) hb)
                clear HO_5
                clear HO_7
                clear BK497
                clear BK505
                clear HB
                have HO_5 := n0_
                have HO_7 := n1_
                have BK497 := n2_
                have BK505 := n3_
                have HB := n4_
                clear n0_ n1_ n2_ n3_ n4_
                (try clear hb)
                (try clear hb2)
                (try clear hk)
                (try clear hi)
                have p23 : 0 ≤ (((rd_T36 l0_1 x24_2).f1) : Int) := oD
                have q23 : (((rd_T36 l0_1 x24_2).f1) : Int) < ((x7_2.length : Int) : Int) := oD
                obtain ⟨go23, co23, eo23, gb23, gl23, cl23, HG23⟩ := Kd.R_form HO_7.out (by omega)
                (first | cases eo23 | (injection eo23 with ea_ en_ ec_; (first | subst ea_ | (injection ea_ with ea_; subst ea_)); subst ec_; clear en_))
                have GB23 := Aside0.mk gb23
                have GG23 := Aside0.mk HG23
                clear gb23 gl23 HG23
                (first | simp only [add_plain] at hx506_0 | skip)
                (first | simp only [add_plain] at hx506_1 | skip)
                (first | simp only [add_plain] at hx506_2 | skip)
                obtain ⟨ce23, hcl23, hM23, hcc23, hfr23⟩ := Kd.R_elem HO_7.out z33 (((rd_T36 l0_1 x24_2).f1) : Int) p23 q23
                obtain rfl := k33_openM hM23
                have hx23_0 : World.cell? _ ⟨go23, (((rd_T36 l0_1 x24_2).f1) : Int).toNat * 3, none⟩ = some (.bool ((rd_T33 x7_2 ((rd_T36 l0_1 x24_2).f1)).f0)) := hcc23 0 _ rfl
                have hx23_1 : World.cell? _ ⟨go23, (((rd_T36 l0_1 x24_2).f1) : Int).toNat * 3 + 1, none⟩ = some (.string ((rd_T33 x7_2 ((rd_T36 l0_1 x24_2).f1)).f1)) := hcc23 1 _ rfl
                have hx23_2 : World.cell? _ ⟨go23, (((rd_T36 l0_1 x24_2).f1) : Int).toNat * 3 + 2, none⟩ = some (.string ((rd_T33 x7_2 ((rd_T36 l0_1 x24_2).f1)).f2)) := hcc23 2 _ rfl
                have hf23_0 : World.frozen? _ ⟨go23, (((rd_T36 l0_1 x24_2).f1) : Int).toNat * 3, none⟩ = false := hfr23 0
                have hf23_1 : World.frozen? _ ⟨go23, (((rd_T36 l0_1 x24_2).f1) : Int).toNat * 3 + 1, none⟩ = false := hfr23 1
                have hf23_2 : World.frozen? _ ⟨go23, (((rd_T36 l0_1 x24_2).f1) : Int).toNat * 3 + 2, none⟩ = false := hfr23 2
                clear hcl23 hcc23 hfr23 hM23
                replace p23 := eq_true p23
                replace q23 := eq_true q23
                obtain ⟨ce31, hcl31, hM31, hcc31, hfr31⟩ := Kd.R_elem HO_7.out z33 (((rd_T36 l0_1 x24_2).f1) : Int) (oD) (by have h_ : (((rd_T36 l0_1 x24_2).f1) : Int) < ((x7_2.length : Int) : Int) := oD; first | exact h_ | (have e_ := (Kd.R_reads' HO_7.out).1; omega) | simpa using h_)
                obtain rfl := k33_openM hM31
                have HP31 := (Kd.R_seg HO_7.out (((rd_T36 l0_1 x24_2).f1) : Int) (oD) (by have h_ : (((rd_T36 l0_1 x24_2).f1) : Int) < ((x7_2.length : Int) : Int) := oD; first | exact h_ | (have e_ := (Kd.R_reads' HO_7.out).1; omega) | simpa using h_) (seg := [.bool t507, .string t508, .string t509]) (j := 0) hcl31 hcc31 (show 3 ≤ 3 from by decide) (x' := (⟨t507, t508, t509⟩ : S33)) (k33_mkM _ _ _ (⟨t507, t508, t509⟩ : S33) ) (fun _ hk => hk)).1
                rw [← Ny510.out] at HP31
                have HQ31 := Aside0.mk HP31
                clear hcl31 hcc31 hfr31 hM31 HP31
                refine hK.out _ _ ⟨(blk_cell BK505.out 0).trans rfl, (blk_cell BK505.out 1).trans rfl, (blk_cell BK505.out 2).trans rfl, (blk_cell BK505.out 3).trans rfl, (blk_cell BK505.out 4).trans rfl, HS5_, HS6_, HS7_⟩ (fun hHeld => ?_)
                clear hK K
                refine norm_ (a' := ?_) ?_ ?_
                rotate_left
                ·show Act.put _ (some 49) _ = _
                 simp only [Act.put, sTA, sC0, sCS, i64_w, i32_w]
                 rfl
                refine pureq (i := 11) (N := some 50) HT_.out rfl rfl ?_
                refine last_ (i := 12) (N := none) #[true, true, true, true, true, true, true, true, true, true, true, true, true] rfl rfl (one_of HT_.out (by kernel_rfl)) (by decide) (fun K hK => ?_)
                refine skip_ (w1 := ?_) (by rfl) rfl ?_ ?_
                rotate_left
                ·go_simp
                 rfl
                refine hK.out _ _ ?_
                clear hK K
                refine done_ (done_of HT_.out (by kernel_rfl)) ?_
                try go_wp2
                go_roundg k2
                case measure => have := HK1.out; have := HK2.out; omega
                case rel => exact ⟨(y510), (wrap64 (x24_2 + 1)), (by first | rfl | (simp; done) | (simp [*]; done)), H', ⟨by have := HK1.out; have := HK2.out; omega⟩, ⟨Kd.R_up (Kd.R_mono (Kd.R_far (p := ⟨go23, (((rd_T36 l0_1 x24_2).f1) : Int).toNat * 3 + 2, none⟩) (Kd.R_far (p := ⟨go23, (((rd_T36 l0_1 x24_2).f1) : Int).toNat * 3 + 1, none⟩) (Kd.R_far (p := ⟨go23, (((rd_T36 l0_1 x24_2).f1) : Int).toNat * 3, none⟩) (Kd.R_types HO_5.out GG23.out (by decide)) (fun _ hk => hk.2) (.bool t507)) (fun _ hk => hk.2) (.string t508)) (fun _ hk => hk.2) (.string t509)) (fun _ hk => trivial))⟩, ⟨Kd.R_up HQ31.out⟩, ⟨by (with_reducible repeat (first | refine kN ?_ _ | refine kD ?_ | refine kA ?_ _)); refine blk_far ?_ (by have h_ := Kd.R_ne HO_7.out BK497.out (by decide); intro e_; exact h_ (by rw [e_]; rfl)) _; (with_reducible repeat (first | refine kN ?_ _ | refine kD ?_ | refine kA ?_ _)); refine blk_far ?_ (by have h_ := Kd.R_ne HO_7.out BK497.out (by decide); intro e_; exact h_ (by rw [e_]; rfl)) _; (with_reducible repeat (first | refine kN ?_ _ | refine kD ?_ | refine kA ?_ _)); refine blk_far ?_ (by have h_ := Kd.R_ne HO_7.out BK497.out (by decide); intro e_; exact h_ (by rw [e_]; rfl)) _; (with_reducible repeat (first | refine kN ?_ _ | refine kD ?_ | refine kA ?_ _)); exact BK497.out⟩, ⟨bU HB.out⟩⟩
               ·rw [if_neg c21] at H
                exact absurd H (by simp)
              ·rw [if_neg c20] at H
               exact absurd H (by simp)
             ·rw [if_neg c19] at H
              have c19b0 : (((rd_T36 l0_1 x24_2).f0) == a1) = false := beq_eq_false_iff_ne.mpr c19
              have c19b1 : (((rd_T36 l0_1 x24_2).f0) != a1) = true := bne_iff_ne.mpr c19
              by_cases c32 : 0 ≤ ((rd_T36 l0_1 x24_2).f0)
              ·rw [if_pos c32] at H
               have c32b0 := decide_eq_true c32
               clear c32
               by_cases c33 : ((rd_T36 l0_1 x24_2).f0) < (x5_1.length : Int)
               ·rw [if_pos c33] at H
                have c33b0 := decide_eq_true c33
                clear c33
                obtain ⟨bq34, hbq34⟩ : ∃ b_ : Bool, b_ = (rdOf false x5_1 ((rd_T36 l0_1 x24_2).f0)) := ⟨_, rfl⟩
                replace H : (if bq34 = true then (if 0 ≤ ((rd_T36 l0_1 x24_2).f1) then (if ((rd_T36 l0_1 x24_2).f1) < (x7_2.length : Int) then ((rational_Add.f k2 ((rd_T33 x7_2 ((rd_T36 l0_1 x24_2).f1)).f0) ((rd_T33 x7_2 ((rd_T36 l0_1 x24_2).f1)).f1) ((rd_T33 x7_2 ((rd_T36 l0_1 x24_2).f1)).f2) ((rd_T36 l0_1 x24_2).f2.f0) ((rd_T36 l0_1 x24_2).f2.f1) ((rd_T36 l0_1 x24_2).f2.f2)).bind fun bt513 => (party_controlled.l1 k2 a1 x5_1 false (x7_2.set (((rd_T36 l0_1 x24_2).f1) : Int).toNat (⟨bt513.1, bt513.2.1, bt513.2.2⟩ : S33)) l0_1 (l0_1.length : Int) (wrap64 (x24_2 + 1)) l0_0 l0_1 l0_2)) else (none)) else (none)) else (party_controlled.l1 k2 a1 x5_1 false x7_2 l0_1 (l0_1.length : Int) (wrap64 (x24_2 + 1)) l0_0 l0_1 l0_2)) = some r := by rw [← hbq34] at H; exact H
                have Nbq34 := Aside0.mk hbq34
                clear hbq34
                by_cases c35 : bq34 = true
                ·subst c35
                 have H1 : (if 0 ≤ ((rd_T36 l0_1 x24_2).f1) then (if ((rd_T36 l0_1 x24_2).f1) < (x7_2.length : Int) then ((rational_Add.f k2 ((rd_T33 x7_2 ((rd_T36 l0_1 x24_2).f1)).f0) ((rd_T33 x7_2 ((rd_T36 l0_1 x24_2).f1)).f1) ((rd_T33 x7_2 ((rd_T36 l0_1 x24_2).f1)).f2) ((rd_T36 l0_1 x24_2).f2.f0) ((rd_T36 l0_1 x24_2).f2.f1) ((rd_T36 l0_1 x24_2).f2.f2)).bind fun bt513 => (party_controlled.l1 k2 a1 x5_1 false (x7_2.set (((rd_T36 l0_1 x24_2).f1) : Int).toNat (⟨bt513.1, bt513.2.1, bt513.2.2⟩ : S33)) l0_1 (l0_1.length : Int) (wrap64 (x24_2 + 1)) l0_0 l0_1 l0_2)) else (none)) else (none)) = some r := by rw [if_pos rfl] at H; exact H
                 clear H
                 have H := H1
                 clear H1
                 by_cases c36 : 0 ≤ ((rd_T36 l0_1 x24_2).f1)
                 ·rw [if_pos c36] at H
                  have c36b0 := decide_eq_true c36
                  clear c36
                  by_cases c37 : ((rd_T36 l0_1 x24_2).f1) < (x7_2.length : Int)
                  ·rw [if_pos c37] at H
                   have c37b0 := decide_eq_true c37
                   clear c37
                   replace H := bE H
                   obtain ⟨⟨t513, t514, t515⟩, A380, H⟩ := H
                   replace H : (party_controlled.l1 k2 a1 x5_1 false (x7_2.set (((rd_T36 l0_1 x24_2).f1) : Int).toNat (⟨t513, t514, t515⟩ : S33)) l0_1 (l0_1.length : Int) (wrap64 (x24_2 + 1)) l0_0 l0_1 l0_2) = some r := H
                   have A38 := Aside0.mk A380
                   clear A380
                   obtain ⟨y516, hy516⟩ : ∃ y_ : List (S33), y_ = (x7_2.set (((rd_T36 l0_1 x24_2).f1) : Int).toNat (⟨t513, t514, t515⟩ : S33)) := ⟨_, rfl⟩
                   replace H : (party_controlled.l1 k2 a1 x5_1 false y516 l0_1 (l0_1.length : Int) (wrap64 (x24_2 + 1)) l0_0 l0_1 l0_2) = some r := by first | (rw [hy516]; with_reducible exact H) | (have H2_ := (Option.bind_some _ _).symm.trans H; rw [hy516]; with_reducible exact H2_) | (have H2_ := (Option.bind_some _ _).symm.trans H; with_reducible exact H2_) | with_reducible exact H | (rw [hy516]; exact H) | exact H
                   have Ny516 := Aside0.mk hy516
                   clear hy516
                   have H' := Aside0.mk H
                   clear H
                   have p504 : 0 ≤ (x24_2 : Int) := oD
                   have q504 : x24_2 < (l0_1.length : Int) := oD
                   obtain ⟨ad504, e504, hx504_0, hx504_1, hx504_2, hx504_3, hx504_4⟩ := at_T36 HR0_1.out x24_2 p504 q504
                   (try rw [← Nbq34.out] at hx504_2)
                   cases e504
                   replace hx504_0 := (HB.out.cell (World.block_lt_of_cell? w _ hx504_0)).trans hx504_0
                   replace hx504_1 := (HB.out.cell (World.block_lt_of_cell? w _ hx504_1)).trans hx504_1
                   replace hx504_2 := (HB.out.cell (World.block_lt_of_cell? w _ hx504_2)).trans hx504_2
                   replace hx504_3 := (HB.out.cell (World.block_lt_of_cell? w _ hx504_3)).trans hx504_3
                   replace hx504_4 := (HB.out.cell (World.block_lt_of_cell? w _ hx504_4)).trans hx504_4
                   replace p504 := eq_true p504
                   replace q504 := eq_true q504
                   try go_wp2_with (first | ((with_reducible refine gate_dst (N := 9) rfl ?_); refine box_event ?hg (N := 9) ?hd (cs := #[.int .i64 0, .int .i64 0, .bool false, .string (⟨#[]⟩ : ByteArray), .string (⟨#[]⟩ : ByteArray)]) (t := 36) ?hr ?_; (case hd => rfl); (case hg => rfl); (case hr => first | (go_simp; done) | (go_simp; rfl)); intro gb505 hg w40 hbox hb; have n0_ := aM (Kd.R_below (Kd.R_up HO_5.out) hb); have n1_ := aM (Kd.R_below (Kd.R_up HO_7.out) hb); have n2_ := aM (blk_below (kU BK497.out) hb); have n3_ := aM (below_step (bU HB.out) hb); have n4_ := aM (hbox); have n5_ := aM ((by rw [hg]; exact (below_size (bU HB.out)) : w.heap.size ≤ gb505)); have n6_ := aM ((by rw [hg]; exact (below_size (bU HB.out)) : w.heap.size ≤ gb505)); have n7_ := aM ((by rw [hg]; exact Nat.ne_of_lt (blk_lt (kU BK497.out)) : gb497 ≠ gb505)); have n8_ := aM ((by rw [hg]; exact Nat.ne_of_gt (blk_lt (kU BK497.out)) : gb505 ≠ gb497)); clear HO_5; clear HO_7; clear BK497; clear HB; have HO_5 := n0_; have HO_7 := n1_; have BK497 := n2_; have HB := n3_; have BK505 := n4_; have GW505 := n5_; have GE505 := n6_; have NB497_505 := n7_; have NB505_497 := n8_; clear n0_ n1_ n2_ n3_ n4_ n5_ n6_ n7_ n8_; clear hb hbox hg; have hnb41 := NB505_497.out; have hnc41 := NB497_505.out; obtain ⟨hcz42_0, hcz42_1, hcz42_2, hcz42_3, hcz42_4, hfz42_0, hfz42_1, hfz42_2, hfz42_3, hfz42_4⟩ := cz5 BK505.out; obtain ⟨Ao43, co43, eo43⟩ := Kd.R_slice HO_5.out; subst eo43; have p511 : 0 ≤ (((rd_T36 l0_1 x24_2).f0) : Int) := oD; have q511 : ((rd_T36 l0_1 x24_2).f0) < (x5_1.length : Int) := oD; obtain ⟨ad511, e511, hx511_0⟩ := Kd.at_bool (Kd.R_reads' HO_5.out).2.2 ((rd_T36 l0_1 x24_2).f0) p511 q511; (try rw [← Nbq34.out] at hx511_0); cases e511; have hn511_0 : ad511.block ≠ gb505 := Kd.own_blk (Kd.R_ne HO_5.out BK505.out (by decide)); have hn511_1 : ad511.block ≠ gb505 := Kd.own_blk (Kd.R_ne HO_5.out BK505.out (by decide)); have hn511_2 : ad511.block ≠ gb505 := Kd.own_blk (Kd.R_ne HO_5.out BK505.out (by decide)); have hn511_3 : ad511.block ≠ gb505 := Kd.own_blk (Kd.R_ne HO_5.out BK505.out (by decide)); have hn511_4 : ad511.block ≠ gb505 := Kd.own_blk (Kd.R_ne HO_5.out BK505.out (by decide)); replace hx511_0 := (cell_far (p := ⟨gb505, 0, none⟩) (by first | (rw [add_block]; exact hn511_0) | (show (Addr.add _ _).block ≠ _; rw [add_block]; exact hn511_0) | exact hn511_0) (.int .i64 ((rd_T36 l0_1 x24_2).f0))).trans hx511_0; replace hx511_0 := (cell_far (p := ⟨gb505, 1, none⟩) (by first | (rw [add_block]; exact hn511_1) | (show (Addr.add _ _).block ≠ _; rw [add_block]; exact hn511_1) | exact hn511_1) (.int .i64 ((rd_T36 l0_1 x24_2).f1))).trans hx511_0; replace hx511_0 := (cell_far (p := ⟨gb505, 2, none⟩) (by first | (rw [add_block]; exact hn511_2) | (show (Addr.add _ _).block ≠ _; rw [add_block]; exact hn511_2) | exact hn511_2) (.bool ((rd_T36 l0_1 x24_2).f2.f0))).trans hx511_0; replace hx511_0 := (cell_far (p := ⟨gb505, 3, none⟩) (by first | (rw [add_block]; exact hn511_3) | (show (Addr.add _ _).block ≠ _; rw [add_block]; exact hn511_3) | exact hn511_3) (.string ((rd_T36 l0_1 x24_2).f2.f1))).trans hx511_0; replace hx511_0 := (cell_far (p := ⟨gb505, 4, none⟩) (by first | (rw [add_block]; exact hn511_4) | (show (Addr.add _ _).block ≠ _; rw [add_block]; exact hn511_4) | exact hn511_4) (.string ((rd_T36 l0_1 x24_2).f2.f2))).trans hx511_0; clear hn511_0; clear hn511_1; clear hn511_2; clear hn511_3; clear hn511_4; replace p511 := eq_true p511; replace q511 := eq_true q511))
                   have n0_ : Aside0 (Kd.R Kd.bool 4 (((((w40.setCell ⟨gb505, 0, none⟩ (.int .i64 ((rd_T36 l0_1 x24_2).f0))).setCell ⟨gb505, 1, none⟩ (.int .i64 ((rd_T36 l0_1 x24_2).f1))).setCell ⟨gb505, 2, none⟩ (.bool ((rd_T36 l0_1 x24_2).f2.f0))).setCell ⟨gb505, 3, none⟩ (.string ((rd_T36 l0_1 x24_2).f2.f1))).setCell ⟨gb505, 4, none⟩ (.string ((rd_T36 l0_1 x24_2).f2.f2))) w.heap.size (fun _ => True) (.slice (some ad511) x5_1.length co43) x5_1) := ⟨Kd.R_up (Kd.R_mono (Kd.R_far (p := ⟨gb505, 4, none⟩) (Kd.R_far (p := ⟨gb505, 3, none⟩) (Kd.R_far (p := ⟨gb505, 2, none⟩) (Kd.R_far (p := ⟨gb505, 1, none⟩) (Kd.R_far (p := ⟨gb505, 0, none⟩) (Kd.R_types HO_5.out BK505.out (by decide)) (fun _ hk => hk.2) (.int .i64 ((rd_T36 l0_1 x24_2).f0))) (fun _ hk => hk.2) (.int .i64 ((rd_T36 l0_1 x24_2).f1))) (fun _ hk => hk.2) (.bool ((rd_T36 l0_1 x24_2).f2.f0))) (fun _ hk => hk.2) (.string ((rd_T36 l0_1 x24_2).f2.f1))) (fun _ hk => hk.2) (.string ((rd_T36 l0_1 x24_2).f2.f2))) (fun _ hk => trivial))⟩
                   have n1_ : Aside0 (Kd.R k33 33 (((((w40.setCell ⟨gb505, 0, none⟩ (.int .i64 ((rd_T36 l0_1 x24_2).f0))).setCell ⟨gb505, 1, none⟩ (.int .i64 ((rd_T36 l0_1 x24_2).f1))).setCell ⟨gb505, 2, none⟩ (.bool ((rd_T36 l0_1 x24_2).f2.f0))).setCell ⟨gb505, 3, none⟩ (.string ((rd_T36 l0_1 x24_2).f2.f1))).setCell ⟨gb505, 4, none⟩ (.string ((rd_T36 l0_1 x24_2).f2.f2))) w.heap.size (fun _ => True) v502 x7_2) := ⟨Kd.R_up (Kd.R_mono (Kd.R_far (p := ⟨gb505, 4, none⟩) (Kd.R_far (p := ⟨gb505, 3, none⟩) (Kd.R_far (p := ⟨gb505, 2, none⟩) (Kd.R_far (p := ⟨gb505, 1, none⟩) (Kd.R_far (p := ⟨gb505, 0, none⟩) (Kd.R_types HO_7.out BK505.out (by decide)) (fun _ hk => hk.2) (.int .i64 ((rd_T36 l0_1 x24_2).f0))) (fun _ hk => hk.2) (.int .i64 ((rd_T36 l0_1 x24_2).f1))) (fun _ hk => hk.2) (.bool ((rd_T36 l0_1 x24_2).f2.f0))) (fun _ hk => hk.2) (.string ((rd_T36 l0_1 x24_2).f2.f1))) (fun _ hk => hk.2) (.string ((rd_T36 l0_1 x24_2).f2.f2))) (fun _ hk => trivial))⟩
                   have n2_ : Aside0 ((((((w40.setCell ⟨gb505, 0, none⟩ (.int .i64 ((rd_T36 l0_1 x24_2).f0))).setCell ⟨gb505, 1, none⟩ (.int .i64 ((rd_T36 l0_1 x24_2).f1))).setCell ⟨gb505, 2, none⟩ (.bool ((rd_T36 l0_1 x24_2).f2.f0))).setCell ⟨gb505, 3, none⟩ (.string ((rd_T36 l0_1 x24_2).f2.f1))).setCell ⟨gb505, 4, none⟩ (.string ((rd_T36 l0_1 x24_2).f2.f2))).heap[gb497]? = some (.cells #[.slice A0_0 l0_0.length c0_0, .slice (some ad504) l0_1.length c0_1, .slice A0_2 l0_2.length c0_2] 26 (0, 0))) := ⟨kP BK497.out⟩
                   have n3_ : Aside0 ((((((w40.setCell ⟨gb505, 0, none⟩ (.int .i64 ((rd_T36 l0_1 x24_2).f0))).setCell ⟨gb505, 1, none⟩ (.int .i64 ((rd_T36 l0_1 x24_2).f1))).setCell ⟨gb505, 2, none⟩ (.bool ((rd_T36 l0_1 x24_2).f2.f0))).setCell ⟨gb505, 3, none⟩ (.string ((rd_T36 l0_1 x24_2).f2.f1))).setCell ⟨gb505, 4, none⟩ (.string ((rd_T36 l0_1 x24_2).f2.f2))).heap[gb505]? = some (.cells #[.int .i64 ((rd_T36 l0_1 x24_2).f0), .int .i64 ((rd_T36 l0_1 x24_2).f1), .bool ((rd_T36 l0_1 x24_2).f2.f0), .string ((rd_T36 l0_1 x24_2).f2.f1), .string ((rd_T36 l0_1 x24_2).f2.f2)] 36 (0, 0))) := ⟨kP BK505.out⟩
                   have n4_ : Aside0 (Below w.heap.size w (((((w40.setCell ⟨gb505, 0, none⟩ (.int .i64 ((rd_T36 l0_1 x24_2).f0))).setCell ⟨gb505, 1, none⟩ (.int .i64 ((rd_T36 l0_1 x24_2).f1))).setCell ⟨gb505, 2, none⟩ (.bool ((rd_T36 l0_1 x24_2).f2.f0))).setCell ⟨gb505, 3, none⟩ (.string ((rd_T36 l0_1 x24_2).f2.f1))).setCell ⟨gb505, 4, none⟩ (.string ((rd_T36 l0_1 x24_2).f2.f2)))) := ⟨bU HB.out⟩
                   (try clear HO_5)
                   (try clear HO_7)
                   (try clear BK497)
                   (try clear BK505)
                   (try clear HB)
                   generalize (((((w40.setCell ⟨gb505, 0, none⟩ (.int .i64 ((rd_T36 l0_1 x24_2).f0))).setCell ⟨gb505, 1, none⟩ (.int .i64 ((rd_T36 l0_1 x24_2).f1))).setCell ⟨gb505, 2, none⟩ (.bool ((rd_T36 l0_1 x24_2).f2.f0))).setCell ⟨gb505, 3, none⟩ (.string ((rd_T36 l0_1 x24_2).f2.f1))).setCell ⟨gb505, 4, none⟩ (.string ((rd_T36 l0_1 x24_2).f2.f2))) = w44 at n0_ n1_ n2_ n3_ n4_ ⊢
                   have HO_5 := n0_
                   have HO_7 := n1_
                   have BK497 := n2_
                   have BK505 := n3_
                   have HB := n4_
                   clear n0_ n1_ n2_ n3_ n4_
                   have n0_ := aM (Kd.R_drew HO_5.out)
                   have n1_ := aM (Kd.R_drew HO_7.out)
                   have n2_ := aM (blk_drew BK497.out)
                   have n3_ := aM (blk_drew BK505.out)
                   have n4_ := aM (below_drew1 HB.out)
                   clear HO_5
                   clear HO_7
                   clear BK497
                   clear BK505
                   clear HB
                   have HO_5 := n0_
                   have HO_7 := n1_
                   have BK497 := n2_
                   have BK505 := n3_
                   have HB := n4_
                   clear n0_ n1_ n2_ n3_ n4_
                   obtain ⟨Ao46, co46, eo46⟩ := Kd.R_slice HO_7.out
                   (first | subst eo46 | (injection eo46 with f1_ f2_ f3_; have f4_ := f1_.symm; have f5_ := f3_.symm; clear f1_ f2_ f3_; subst f4_; subst f5_))
                   have p512 : 0 ≤ (((rd_T36 l0_1 x24_2).f1) : Int) := oD
                   have q512 : ((rd_T36 l0_1 x24_2).f1) < (x7_2.length : Int) := oD
                   obtain ⟨ad512, e512, hx512_0, hx512_1, hx512_2⟩ := at_T33 (Kd.R_reads' HO_7.out).2.2 ((rd_T36 l0_1 x24_2).f1) p512 q512
                   (try rw [← Nbq34.out] at hx512_0)
                   cases e512
                   replace p512 := eq_true p512
                   replace q512 := eq_true q512
                   refine start_ (n := 13) (S := fun w' => w'.cell? ⟨gb505, 0, none⟩ = some (.int .i64 ((rd_T36 l0_1 x24_2).f0)) ∧ w'.cell? ⟨gb505, 1, none⟩ = some (.int .i64 ((rd_T36 l0_1 x24_2).f1)) ∧ w'.cell? ⟨gb505, 2, none⟩ = some (.bool ((rd_T36 l0_1 x24_2).f2.f0)) ∧ w'.cell? ⟨gb505, 3, none⟩ = some (.string ((rd_T36 l0_1 x24_2).f2.f1)) ∧ w'.cell? ⟨gb505, 4, none⟩ = some (.string ((rd_T36 l0_1 x24_2).f2.f2)) ∧ w'.cell? (ad512.add ((((rd_T36 l0_1 x24_2).f1)).toNat * 3)) = some (.bool ((rd_T33 x7_2 ((rd_T36 l0_1 x24_2).f1)).f0)) ∧ w'.cell? ⟨(ad512.add ((((rd_T36 l0_1 x24_2).f1)).toNat * 3)).block, (ad512.add ((((rd_T36 l0_1 x24_2).f1)).toNat * 3)).off + 1, none⟩ = some (.string ((rd_T33 x7_2 ((rd_T36 l0_1 x24_2).f1)).f1)) ∧ w'.cell? ⟨(ad512.add ((((rd_T36 l0_1 x24_2).f1)).toNat * 3)).block, (ad512.add ((((rd_T36 l0_1 x24_2).f1)).toNat * 3)).off + 2, none⟩ = some (.string ((rd_T33 x7_2 ((rd_T36 l0_1 x24_2).f1)).f2))) (ds := [12]) #[false, false, false, false, false, false, false, false, false, false, false, false, false] (by kernel_rfl) rfl rfl ⟨(blk_cell BK505.out 0).trans rfl, (blk_cell BK505.out 1).trans rfl, (blk_cell BK505.out 2).trans rfl, (blk_cell BK505.out 3).trans rfl, (blk_cell BK505.out 4).trans rfl, hx512_0, hx512_1, hx512_2⟩ (fun hHeld => ?_); refine with_tabW party_controlled.tab10 party_controlled.bits10 (fun HT_ HW_ => ?_)
                   generalize w44.drew = w45 at HO_5 HO_7 BK497 BK505 HB hx512_0 hx512_1 hx512_2 hHeld ⊢
                   refine pureq (i := 0) (N := some 39) HT_.out rfl rfl ?_
                   refine pureq (i := 1) (N := some 40) HT_.out rfl rfl ?_
                   refine pureq (i := 3) (N := some 42) HT_.out rfl rfl ?_
                   refine pureq (i := 4) (N := some 43) HT_.out rfl rfl ?_
                   refine pureq (i := 8) (N := some 47) HT_.out rfl rfl ?_
                   refine takeq (i := 2) (N := some 41) HT_.out HW_.out hHeld rfl rfl ?_
                   refine takeq (i := 5) (N := some 44) HT_.out HW_.out hHeld rfl rfl ?_
                   refine pureq (i := 6) (N := some 45) HT_.out rfl rfl ?_
                   refine takeq (i := 7) (N := some 46) HT_.out HW_.out hHeld rfl rfl ?_
                   refine takeq (i := 9) (N := some 48) HT_.out HW_.out hHeld rfl rfl ?_
                   refine one_ (i := 10) (N := some 49) #[true, true, true, true, true, true, true, true, true, true, true, false, false] rfl rfl (one_of HT_.out (by kernel_rfl)) (by decide) (fun K hK => ?_)
                   refine goesq Tryd.func23 #[.agg #[.bool ((rd_T33 x7_2 ((rd_T36 l0_1 x24_2).f1)).f0), .string ((rd_T33 x7_2 ((rd_T36 l0_1 x24_2).f1)).f1), .string ((rd_T33 x7_2 ((rd_T36 l0_1 x24_2).f1)).f2)], .agg #[.bool ((rd_T36 l0_1 x24_2).f2.f0), .string ((rd_T36 l0_1 x24_2).f2.f1), .string ((rd_T36 l0_1 x24_2).f2.f2)]] (by rfl) rfl rfl ?_
                   with_reducible refine (rational_Add.calls k2 ((rd_T33 x7_2 ((rd_T36 l0_1 x24_2).f1)).f0) ((rd_T33 x7_2 ((rd_T36 l0_1 x24_2).f1)).f1) ((rd_T33 x7_2 ((rd_T36 l0_1 x24_2).f1)).f2) ((rd_T36 l0_1 x24_2).f2.f0) ((rd_T36 l0_1 x24_2).f2.f1) ((rd_T36 l0_1 x24_2).f2.f2) t513 t514 t515 _ A38.out).mono ?_
                   rintro e w47 ⟨rfl, hb⟩
                   have HS5_ := (hb.cell (World.block_lt_of_cell? _ _ (hHeld.2.2.2.2.2.1))).trans (hHeld.2.2.2.2.2.1)
                   have HS6_ := (hb.cell (World.block_lt_of_cell? _ _ (hHeld.2.2.2.2.2.2.1))).trans (hHeld.2.2.2.2.2.2.1)
                   have HS7_ := (hb.cell (World.block_lt_of_cell? _ _ (hHeld.2.2.2.2.2.2.2))).trans (hHeld.2.2.2.2.2.2.2)
                   refine ⟨_, rfl, ?_⟩
                   have n0_ := aM (Kd.R_below (Kd.R_up HO_5.out) hb)
                   have n1_ := aM (Kd.R_below (Kd.R_up HO_7.out) hb)
                   have n2_ := aM (blk_below (kU BK497.out) hb)
                   have n3_ := aM (blk_below (kU BK505.out) hb)
                   have n4_ := aM (below_step (bU HB.out) hb)
                   clear HO_5
                   clear HO_7
                   clear BK497
                   clear BK505
                   clear HB
                   have HO_5 := n0_
                   have HO_7 := n1_
                   have BK497 := n2_
                   have BK505 := n3_
                   have HB := n4_
                   clear n0_ n1_ n2_ n3_ n4_
                   (try clear hb)
                   (try clear hb2)
                   (try clear hk)
                   (try clear hi)
                   have p39 : 0 ≤ (((rd_T36 l0_1 x24_2).f1) : Int) := oD
                   have q39 : (((rd_T36 l0_1 x24_2).f1) : Int) < ((x7_2.length : Int) : Int) := oD
                   obtain ⟨go39, co39, eo39, gb39, gl39, cl39, HG39⟩ := Kd.R_form HO_7.out (by omega)
                   (first | cases eo39 | (injection eo39 with ea_ en_ ec_; (first | subst ea_ | (injection ea_ with ea_; subst ea_)); subst ec_; clear en_))
                   have GB39 := Aside0.mk gb39
                   have GG39 := Aside0.mk HG39
                   clear gb39 gl39 HG39
                   (first | simp only [add_plain] at hx512_0 | skip)
                   (first | simp only [add_plain] at hx512_1 | skip)
                   (first | simp only [add_plain] at hx512_2 | skip)
                   obtain ⟨ce39, hcl39, hM39, hcc39, hfr39⟩ := Kd.R_elem HO_7.out z33 (((rd_T36 l0_1 x24_2).f1) : Int) p39 q39
                   obtain rfl := k33_openM hM39
                   have hx39_0 : World.cell? _ ⟨go39, (((rd_T36 l0_1 x24_2).f1) : Int).toNat * 3, none⟩ = some (.bool ((rd_T33 x7_2 ((rd_T36 l0_1 x24_2).f1)).f0)) := hcc39 0 _ rfl
                   have hx39_1 : World.cell? _ ⟨go39, (((rd_T36 l0_1 x24_2).f1) : Int).toNat * 3 + 1, none⟩ = some (.string ((rd_T33 x7_2 ((rd_T36 l0_1 x24_2).f1)).f1)) := hcc39 1 _ rfl
                   have hx39_2 : World.cell? _ ⟨go39, (((rd_T36 l0_1 x24_2).f1) : Int).toNat * 3 + 2, none⟩ = some (.string ((rd_T33 x7_2 ((rd_T36 l0_1 x24_2).f1)).f2)) := hcc39 2 _ rfl
                   have hf39_0 : World.frozen? _ ⟨go39, (((rd_T36 l0_1 x24_2).f1) : Int).toNat * 3, none⟩ = false := hfr39 0
                   have hf39_1 : World.frozen? _ ⟨go39, (((rd_T36 l0_1 x24_2).f1) : Int).toNat * 3 + 1, none⟩ = false := hfr39 1
                   have hf39_2 : World.frozen? _ ⟨go39, (((rd_T36 l0_1 x24_2).f1) : Int).toNat * 3 + 2, none⟩ = false := hfr39 2
                   clear hcl39 hcc39 hfr39 hM39
                   replace p39 := eq_true p39
                   replace q39 := eq_true q39
                   obtain ⟨ce48, hcl48, hM48, hcc48, hfr48⟩ := Kd.R_elem HO_7.out z33 (((rd_T36 l0_1 x24_2).f1) : Int) (oD) (by have h_ : (((rd_T36 l0_1 x24_2).f1) : Int) < ((x7_2.length : Int) : Int) := oD; first | exact h_ | (have e_ := (Kd.R_reads' HO_7.out).1; omega) | simpa using h_)
                   obtain rfl := k33_openM hM48
                   have HP48 := (Kd.R_seg HO_7.out (((rd_T36 l0_1 x24_2).f1) : Int) (oD) (by have h_ : (((rd_T36 l0_1 x24_2).f1) : Int) < ((x7_2.length : Int) : Int) := oD; first | exact h_ | (have e_ := (Kd.R_reads' HO_7.out).1; omega) | simpa using h_) (seg := [.bool t513, .string t514, .string t515]) (j := 0) hcl48 hcc48 (show 3 ≤ 3 from by decide) (x' := (⟨t513, t514, t515⟩ : S33)) (k33_mkM _ _ _ (⟨t513, t514, t515⟩ : S33) ) (fun _ hk => hk)).1
                   rw [← Ny516.out] at HP48
                   have HQ48 := Aside0.mk HP48
                   clear hcl48 hcc48 hfr48 hM48 HP48
                   refine hK.out _ _ ⟨(blk_cell BK505.out 0).trans rfl, (blk_cell BK505.out 1).trans rfl, (blk_cell BK505.out 2).trans rfl, (blk_cell BK505.out 3).trans rfl, (blk_cell BK505.out 4).trans rfl, HS5_, HS6_, HS7_⟩ (fun hHeld => ?_)
                   clear hK K
                   refine norm_ (a' := ?_) ?_ ?_
                   rotate_left
                   ·show Act.put _ (some 49) _ = _
                    simp only [Act.put, sTA, sC0, sCS, i64_w, i32_w]
                    rfl
                   refine pureq (i := 11) (N := some 50) HT_.out rfl rfl ?_
                   refine last_ (i := 12) (N := none) #[true, true, true, true, true, true, true, true, true, true, true, true, true] rfl rfl (one_of HT_.out (by kernel_rfl)) (by decide) (fun K hK => ?_)
                   refine skip_ (w1 := ?_) (by rfl) rfl ?_ ?_
                   rotate_left
                   ·go_simp
                    rfl
                   refine hK.out _ _ ?_
                   clear hK K
                   refine done_ (done_of HT_.out (by kernel_rfl)) ?_
                   try go_wp2
                   go_roundg k2
                   case measure => have := HK1.out; have := HK2.out; omega
                   case rel => exact ⟨(y516), (wrap64 (x24_2 + 1)), (by first | rfl | (simp; done) | (simp [*]; done)), H', ⟨by have := HK1.out; have := HK2.out; omega⟩, ⟨Kd.R_up (Kd.R_mono (Kd.R_far (p := ⟨go39, (((rd_T36 l0_1 x24_2).f1) : Int).toNat * 3 + 2, none⟩) (Kd.R_far (p := ⟨go39, (((rd_T36 l0_1 x24_2).f1) : Int).toNat * 3 + 1, none⟩) (Kd.R_far (p := ⟨go39, (((rd_T36 l0_1 x24_2).f1) : Int).toNat * 3, none⟩) (Kd.R_types HO_5.out GG39.out (by decide)) (fun _ hk => hk.2) (.bool t513)) (fun _ hk => hk.2) (.string t514)) (fun _ hk => hk.2) (.string t515)) (fun _ hk => trivial))⟩, ⟨Kd.R_up HQ48.out⟩, ⟨by (with_reducible repeat (first | refine kN ?_ _ | refine kD ?_ | refine kA ?_ _)); refine blk_far ?_ (by have h_ := Kd.R_ne HO_7.out BK497.out (by decide); intro e_; exact h_ (by rw [e_]; rfl)) _; (with_reducible repeat (first | refine kN ?_ _ | refine kD ?_ | refine kA ?_ _)); refine blk_far ?_ (by have h_ := Kd.R_ne HO_7.out BK497.out (by decide); intro e_; exact h_ (by rw [e_]; rfl)) _; (with_reducible repeat (first | refine kN ?_ _ | refine kD ?_ | refine kA ?_ _)); refine blk_far ?_ (by have h_ := Kd.R_ne HO_7.out BK497.out (by decide); intro e_; exact h_ (by rw [e_]; rfl)) _; (with_reducible repeat (first | refine kN ?_ _ | refine kD ?_ | refine kA ?_ _)); exact BK497.out⟩, ⟨bU HB.out⟩⟩
                  ·rw [if_neg c37] at H
                   exact absurd H (by simp)
                 ·rw [if_neg c36] at H
                  exact absurd H (by simp)
                ·replace c35 := Bool.eq_false_iff.mpr c35
                 subst c35
                 have H1 : (party_controlled.l1 k2 a1 x5_1 false x7_2 l0_1 (l0_1.length : Int) (wrap64 (x24_2 + 1)) l0_0 l0_1 l0_2) = some r := by rw [if_neg (show ¬ (false = true) by decide)] at H; exact H
                 clear H
                 have H := H1
                 clear H1
                 have H' := Aside0.mk H
                 clear H
                 have p504 : 0 ≤ (x24_2 : Int) := oD
                 have q504 : x24_2 < (l0_1.length : Int) := oD
                 obtain ⟨ad504, e504, hx504_0, hx504_1, hx504_2, hx504_3, hx504_4⟩ := at_T36 HR0_1.out x24_2 p504 q504
                 (try rw [← Nbq34.out] at hx504_2)
                 cases e504
                 replace hx504_0 := (HB.out.cell (World.block_lt_of_cell? w _ hx504_0)).trans hx504_0
                 replace hx504_1 := (HB.out.cell (World.block_lt_of_cell? w _ hx504_1)).trans hx504_1
                 replace hx504_2 := (HB.out.cell (World.block_lt_of_cell? w _ hx504_2)).trans hx504_2
                 replace hx504_3 := (HB.out.cell (World.block_lt_of_cell? w _ hx504_3)).trans hx504_3
                 replace hx504_4 := (HB.out.cell (World.block_lt_of_cell? w _ hx504_4)).trans hx504_4
                 replace p504 := eq_true p504
                 replace q504 := eq_true q504
                 go_wp2_with (first | ((with_reducible refine gate_dst (N := 9) rfl ?_); refine box_event ?hg (N := 9) ?hd (cs := #[.int .i64 0, .int .i64 0, .bool false, .string (⟨#[]⟩ : ByteArray), .string (⟨#[]⟩ : ByteArray)]) (t := 36) ?hr ?_; (case hd => rfl); (case hg => rfl); (case hr => first | (go_simp; done) | (go_simp; rfl)); intro gb505 hg w49 hbox hb; have n0_ := aM (Kd.R_below (Kd.R_up HO_5.out) hb); have n1_ := aM (Kd.R_below (Kd.R_up HO_7.out) hb); have n2_ := aM (blk_below (kU BK497.out) hb); have n3_ := aM (below_step (bU HB.out) hb); have n4_ := aM (hbox); have n5_ := aM ((by rw [hg]; exact (below_size (bU HB.out)) : w.heap.size ≤ gb505)); have n6_ := aM ((by rw [hg]; exact (below_size (bU HB.out)) : w.heap.size ≤ gb505)); have n7_ := aM ((by rw [hg]; exact Nat.ne_of_lt (blk_lt (kU BK497.out)) : gb497 ≠ gb505)); have n8_ := aM ((by rw [hg]; exact Nat.ne_of_gt (blk_lt (kU BK497.out)) : gb505 ≠ gb497)); clear HO_5; clear HO_7; clear BK497; clear HB; have HO_5 := n0_; have HO_7 := n1_; have BK497 := n2_; have HB := n3_; have BK505 := n4_; have GW505 := n5_; have GE505 := n6_; have NB497_505 := n7_; have NB505_497 := n8_; clear n0_ n1_ n2_ n3_ n4_ n5_ n6_ n7_ n8_; clear hb hbox hg; have hnb50 := NB505_497.out; have hnc50 := NB497_505.out; obtain ⟨hcz51_0, hcz51_1, hcz51_2, hcz51_3, hcz51_4, hfz51_0, hfz51_1, hfz51_2, hfz51_3, hfz51_4⟩ := cz5 BK505.out; obtain ⟨Ao52, co52, eo52⟩ := Kd.R_slice HO_5.out; subst eo52; have p511 : 0 ≤ (((rd_T36 l0_1 x24_2).f0) : Int) := oD; have q511 : ((rd_T36 l0_1 x24_2).f0) < (x5_1.length : Int) := oD; obtain ⟨ad511, e511, hx511_0⟩ := Kd.at_bool (Kd.R_reads' HO_5.out).2.2 ((rd_T36 l0_1 x24_2).f0) p511 q511; (try rw [← Nbq34.out] at hx511_0); cases e511; have hn511_0 : ad511.block ≠ gb505 := Kd.own_blk (Kd.R_ne HO_5.out BK505.out (by decide)); have hn511_1 : ad511.block ≠ gb505 := Kd.own_blk (Kd.R_ne HO_5.out BK505.out (by decide)); have hn511_2 : ad511.block ≠ gb505 := Kd.own_blk (Kd.R_ne HO_5.out BK505.out (by decide)); have hn511_3 : ad511.block ≠ gb505 := Kd.own_blk (Kd.R_ne HO_5.out BK505.out (by decide)); have hn511_4 : ad511.block ≠ gb505 := Kd.own_blk (Kd.R_ne HO_5.out BK505.out (by decide)); replace hx511_0 := (cell_far (p := ⟨gb505, 0, none⟩) (by first | (rw [add_block]; exact hn511_0) | (show (Addr.add _ _).block ≠ _; rw [add_block]; exact hn511_0) | exact hn511_0) (.int .i64 ((rd_T36 l0_1 x24_2).f0))).trans hx511_0; replace hx511_0 := (cell_far (p := ⟨gb505, 1, none⟩) (by first | (rw [add_block]; exact hn511_1) | (show (Addr.add _ _).block ≠ _; rw [add_block]; exact hn511_1) | exact hn511_1) (.int .i64 ((rd_T36 l0_1 x24_2).f1))).trans hx511_0; replace hx511_0 := (cell_far (p := ⟨gb505, 2, none⟩) (by first | (rw [add_block]; exact hn511_2) | (show (Addr.add _ _).block ≠ _; rw [add_block]; exact hn511_2) | exact hn511_2) (.bool ((rd_T36 l0_1 x24_2).f2.f0))).trans hx511_0; replace hx511_0 := (cell_far (p := ⟨gb505, 3, none⟩) (by first | (rw [add_block]; exact hn511_3) | (show (Addr.add _ _).block ≠ _; rw [add_block]; exact hn511_3) | exact hn511_3) (.string ((rd_T36 l0_1 x24_2).f2.f1))).trans hx511_0; replace hx511_0 := (cell_far (p := ⟨gb505, 4, none⟩) (by first | (rw [add_block]; exact hn511_4) | (show (Addr.add _ _).block ≠ _; rw [add_block]; exact hn511_4) | exact hn511_4) (.string ((rd_T36 l0_1 x24_2).f2.f2))).trans hx511_0; clear hn511_0; clear hn511_1; clear hn511_2; clear hn511_3; clear hn511_4; replace p511 := eq_true p511; replace q511 := eq_true q511))
                 go_roundg k2
                 case measure => have := HK1.out; have := HK2.out; omega
                 case rel => exact ⟨(x7_2), (wrap64 (x24_2 + 1)), (by first | rfl | (simp; done) | (simp [*]; done)), H', ⟨by have := HK1.out; have := HK2.out; omega⟩, ⟨Kd.R_up (Kd.R_mono (Kd.R_far (p := ⟨gb505, 4, none⟩) (Kd.R_far (p := ⟨gb505, 3, none⟩) (Kd.R_far (p := ⟨gb505, 2, none⟩) (Kd.R_far (p := ⟨gb505, 1, none⟩) (Kd.R_far (p := ⟨gb505, 0, none⟩) (Kd.R_types HO_5.out BK505.out (by decide)) (fun _ hk => hk.2) (.int .i64 ((rd_T36 l0_1 x24_2).f0))) (fun _ hk => hk.2) (.int .i64 ((rd_T36 l0_1 x24_2).f1))) (fun _ hk => hk.2) (.bool ((rd_T36 l0_1 x24_2).f2.f0))) (fun _ hk => hk.2) (.string ((rd_T36 l0_1 x24_2).f2.f1))) (fun _ hk => hk.2) (.string ((rd_T36 l0_1 x24_2).f2.f2))) (fun _ hk => trivial))⟩, ⟨Kd.R_up (Kd.R_mono (Kd.R_far (p := ⟨gb505, 4, none⟩) (Kd.R_far (p := ⟨gb505, 3, none⟩) (Kd.R_far (p := ⟨gb505, 2, none⟩) (Kd.R_far (p := ⟨gb505, 1, none⟩) (Kd.R_far (p := ⟨gb505, 0, none⟩) (Kd.R_types HO_7.out BK505.out (by decide)) (fun _ hk => hk.2) (.int .i64 ((rd_T36 l0_1 x24_2).f0))) (fun _ hk => hk.2) (.int .i64 ((rd_T36 l0_1 x24_2).f1))) (fun _ hk => hk.2) (.bool ((rd_T36 l0_1 x24_2).f2.f0))) (fun _ hk => hk.2) (.string ((rd_T36 l0_1 x24_2).f2.f1))) (fun _ hk => hk.2) (.string ((rd_T36 l0_1 x24_2).f2.f2))) (fun _ hk => trivial))⟩, ⟨kP BK497.out⟩, ⟨bU HB.out⟩⟩
               ·rw [if_neg c33] at H
                exact absurd H (by simp)
              ·rw [if_neg c32] at H
               exact absurd H (by simp)
            ·rw [if_neg c18] at H
             exact absurd H (by simp)
           ·rw [if_neg c17] at H
            exact absurd H (by simp)
          ·rw [if_neg c16] at H
           have c16b0 := decide_eq_false c16
           clear c16
           have H' := Aside0.mk H
           clear H
           obtain ⟨Ao53, co53, eo53⟩ := Kd.R_slice HO_7.out
           subst eo53
           go_wp2
           go_loopg [6, 54] k2 (fun kq v6 v54 w' => ∃ (x5_3 : List Bool) (x6_3 : Bool) (x54_3 : Int), v6 = .bool x6_3 ∧ v54 = .int .i64 x54_3 ∧ Aside0 (party_controlled.l2 kq a1 x5_3 x6_3 x7_2 (x7_2.length : Int) x54_3 l0_0 l0_1 l0_2 = some r) ∧ Aside0 (kq ≤ k2) ∧ Aside0 (Kd.R Kd.bool 4 w' w.heap.size (fun _ => True) v499 x5_3) ∧ Aside0 (Kd.R k33 33 w' w.heap.size (fun _ => True) (.slice Ao53 x7_2.length co53) x7_2) ∧ Aside0 (w'.heap[gb497]? = some (.cells #[(.slice A0_0 l0_0.length c0_0), (.slice A0_1 l0_1.length c0_1), (.slice A0_2 l0_2.length c0_2)] 26 (0, 0))) ∧ Aside0 (Below w.heap.size w w'))
           case atStart => exact ⟨(x5_1), (false), (0), (by first | rfl | (simp; done) | (simp [*]; done)), (by first | rfl | (simp; done) | (simp [*]; done)), H', ⟨Nat.le_refl _⟩, ⟨Kd.R_up HO_5.out⟩, ⟨Kd.R_up HO_7.out⟩, ⟨kU BK497.out⟩, ⟨bU HB.out⟩⟩
           case round =>
            clear H'
            (try clear c1); (try clear c2); (try clear p2); (try clear q2); (try clear hx2); (try clear hf2); (try clear c3); (try clear p3); (try clear q3); (try clear hx3); (try clear hf3); (try clear c4); (try clear c4b0); (try clear c4b1); (try clear c5); (try clear p5); (try clear q5); (try clear hx5); (try clear p6); (try clear c9); (try clear c10); (try clear c10b0); (try clear c10b1); (try clear c11); (try clear c11b0); (try clear c11b1); (try clear c16); (try clear c16b0); (try clear c17); (try clear c17b0); (try clear c18); (try clear c18b0); (try clear c19); (try clear c19b0); (try clear c19b1); (try clear c20); (try clear c20b0); (try clear c21); (try clear c21b0); (try clear c23); (try clear p23); (try clear q23); (try clear hx23); (try clear hf23); (try clear c25); (try clear c31); (try clear c32); (try clear c32b0); (try clear c33); (try clear c33b0); (try clear q34); (try clear c35); (try clear c36); (try clear c36b0); (try clear c37); (try clear c37b0); (try clear c39); (try clear p39); (try clear q39); (try clear hx39); (try clear hf39); (try clear c41); (try clear c48); (try clear c50); (try clear p50); (try clear q50); (try clear hx50); (try clear p51); (try clear q51); (try clear hx51); (try clear hcz12_0 hcz12_1 hcz12_2); (try clear hcz15_0 hcz15_1 hcz15_2); (try clear hcz26_0 hcz26_1 hcz26_2 hcz26_3 hcz26_4); (try clear hcz42_0 hcz42_1 hcz42_2 hcz42_3 hcz42_4); (try clear hcz51_0 hcz51_1 hcz51_2 hcz51_3 hcz51_4); (try clear hcz6_0 hcz6_1 hcz6_2); (try clear hfz12_0 hfz12_1 hfz12_2); (try clear hfz15_0 hfz15_1 hfz15_2); (try clear hfz26_0 hfz26_1 hfz26_2 hfz26_3 hfz26_4); (try clear hfz42_0 hfz42_1 hfz42_2 hfz42_3 hfz42_4); (try clear hfz51_0 hfz51_1 hfz51_2 hfz51_3 hfz51_4); (try clear hfz6_0 hfz6_1 hfz6_2); (try clear hx23_0); (try clear hx23_1); (try clear hx23_2); (try clear hx39_0); (try clear hx39_1); (try clear hx39_2); (try clear hx504_0); (try clear hx504_1); (try clear hx504_2); (try clear hx504_3); (try clear hx504_4); (try clear hx506_0); (try clear hx506_1); (try clear hx506_2); (try clear hx511_0); (try clear hx512_0); (try clear hx512_1); (try clear hx512_2); (try clear p2); (try clear p23); (try clear p39); (try clear p504); (try clear p506); (try clear p511); (try clear p512); (try clear q23); (try clear q39); (try clear q504); (try clear q506); (try clear q511); (try clear q512)
            obtain ⟨x5_3, x6_3, x54_3, rfl, rfl, HA, HK3, HO_5, HO_52, BK497, HB⟩ := hrel
            cases gk with
            | zero => exact absurd HA.out (by simp [party_controlled.l2])
            | succ k3 =>
             have H := HA.out
             clear HA
             simp only [party_controlled.l2] at H
             by_cases c54 : x54_3 < (x7_2.length : Int)
             ·rw [if_pos c54] at H
              have c54b0 := decide_eq_true c54
              clear c54
              by_cases c55 : 0 ≤ x54_3
              ·rw [if_pos c55] at H
               have c55b0 := decide_eq_true c55
               clear c55
               by_cases c56 : x54_3 < (x7_2.length : Int)
               ·rw [if_pos c56] at H
                have c56b0 := decide_eq_true c56
                clear c56
                by_cases c57 : x54_3 = a1
                ·rw [if_pos c57] at H
                 have c57b0 : (x54_3 == a1) = true := beq_iff_eq.mpr c57
                 have c57b1 : (x54_3 != a1) = false := bne_eq_false_iff_eq.mpr c57
                 clear c57
                 have H' := Aside0.mk H
                 clear H
                 have p517 : 0 ≤ (x54_3 : Int) := oD
                 have q517 : x54_3 < (x7_2.length : Int) := oD
                 obtain ⟨ad517, e517, hx517_0, hx517_1, hx517_2⟩ := at_T33 (Kd.R_reads' HO_52.out).2.2 x54_3 p517 q517
                 cases e517
                 replace p517 := eq_true p517
                 replace q517 := eq_true q517
                 try go_wp2_with (first | ((with_reducible refine gate_dst (N := 11) rfl ?_); refine box_event ?hg (N := 11) ?hd (cs := #[.bool false, .string (⟨#[]⟩ : ByteArray), .string (⟨#[]⟩ : ByteArray)]) (t := 33) ?hr ?_; (case hd => rfl); (case hg => rfl); (case hr => first | (go_simp; done) | (go_simp; rfl)); intro gb518 hg w58 hbox hb; have n0_ := aM (Kd.R_below (Kd.R_up HO_5.out) hb); have n1_ := aM (Kd.R_below (Kd.R_elderB (Kd.R_up HO_52.out) gb518 (Nat.le_of_eq hg.symm)) hb); have n2_ := aM (blk_below (kU BK497.out) hb); have n3_ := aM (below_step (bU HB.out) hb); have n4_ := aM (hbox); have n5_ := aM ((by rw [hg]; exact (below_size (bU HB.out)) : w.heap.size ≤ gb518)); have n6_ := aM ((by rw [hg]; exact (below_size (bU HB.out)) : w.heap.size ≤ gb518)); have n7_ := aM ((by rw [hg]; exact Nat.ne_of_lt (blk_lt (kU BK497.out)) : gb497 ≠ gb518)); have n8_ := aM ((by rw [hg]; exact Nat.ne_of_gt (blk_lt (kU BK497.out)) : gb518 ≠ gb497)); clear HO_5; clear HO_52; clear BK497; clear HB; have HO_5 := n0_; have HO_52 := n1_; have BK497 := n2_; have HB := n3_; have BK518 := n4_; have GW518 := n5_; have GE518 := n6_; have NB497_518 := n7_; have NB518_497 := n8_; clear n0_ n1_ n2_ n3_ n4_ n5_ n6_ n7_ n8_; clear hb hbox hg; have hnb59 := NB518_497.out; have hnc59 := NB497_518.out; obtain ⟨hcz60_0, hcz60_1, hcz60_2, hfz60_0, hfz60_1, hfz60_2⟩ := cz3 BK518.out))
                 have n0_ : Aside0 (Kd.R Kd.bool 4 (((w58.setCell ⟨gb518, 0, none⟩ (.bool ((rd_T33 x7_2 x54_3).f0))).setCell ⟨gb518, 1, none⟩ (.string ((rd_T33 x7_2 x54_3).f1))).setCell ⟨gb518, 2, none⟩ (.string ((rd_T33 x7_2 x54_3).f2))) w.heap.size (fun _ => True) v499 x5_3) := ⟨Kd.R_up (Kd.R_mono (Kd.R_far (p := ⟨gb518, 2, none⟩) (Kd.R_far (p := ⟨gb518, 1, none⟩) (Kd.R_far (p := ⟨gb518, 0, none⟩) (Kd.R_types HO_5.out BK518.out (by decide)) (fun _ hk => hk.2) (.bool ((rd_T33 x7_2 x54_3).f0))) (fun _ hk => hk.2) (.string ((rd_T33 x7_2 x54_3).f1))) (fun _ hk => hk.2) (.string ((rd_T33 x7_2 x54_3).f2))) (fun _ hk => trivial))⟩
                 have n1_ : Aside0 (Kd.R k33 33 (((w58.setCell ⟨gb518, 0, none⟩ (.bool ((rd_T33 x7_2 x54_3).f0))).setCell ⟨gb518, 1, none⟩ (.string ((rd_T33 x7_2 x54_3).f1))).setCell ⟨gb518, 2, none⟩ (.string ((rd_T33 x7_2 x54_3).f2))) w.heap.size (fun k_ => k_ ≠ gb518) (.slice (some ad517) x7_2.length co53) x7_2) := ⟨Kd.R_up (Kd.R_mono (Kd.R_far (p := ⟨gb518, 2, none⟩) (Kd.R_far (p := ⟨gb518, 1, none⟩) (Kd.R_far (p := ⟨gb518, 0, none⟩) (Kd.R_mono HO_52.out (fun k_ hk => (⟨hk, hk.2⟩ : _ ∧ k_ ≠ gb518))) (fun _ hk => hk.2) (.bool ((rd_T33 x7_2 x54_3).f0))) (fun _ hk => hk.2) (.string ((rd_T33 x7_2 x54_3).f1))) (fun _ hk => hk.2) (.string ((rd_T33 x7_2 x54_3).f2))) (fun _ hk => hk.1.2))⟩
                 have n2_ : Aside0 ((((w58.setCell ⟨gb518, 0, none⟩ (.bool ((rd_T33 x7_2 x54_3).f0))).setCell ⟨gb518, 1, none⟩ (.string ((rd_T33 x7_2 x54_3).f1))).setCell ⟨gb518, 2, none⟩ (.string ((rd_T33 x7_2 x54_3).f2))).heap[gb497]? = some (.cells #[.slice A0_0 l0_0.length c0_0, .slice A0_1 l0_1.length c0_1, .slice A0_2 l0_2.length c0_2] 26 (0, 0))) := ⟨kP BK497.out⟩
                 have n3_ : Aside0 ((((w58.setCell ⟨gb518, 0, none⟩ (.bool ((rd_T33 x7_2 x54_3).f0))).setCell ⟨gb518, 1, none⟩ (.string ((rd_T33 x7_2 x54_3).f1))).setCell ⟨gb518, 2, none⟩ (.string ((rd_T33 x7_2 x54_3).f2))).heap[gb518]? = some (.cells #[.bool ((rd_T33 x7_2 x54_3).f0), .string ((rd_T33 x7_2 x54_3).f1), .string ((rd_T33 x7_2 x54_3).f2)] 33 (0, 0))) := ⟨kP BK518.out⟩
                 have n4_ : Aside0 (Below w.heap.size w (((w58.setCell ⟨gb518, 0, none⟩ (.bool ((rd_T33 x7_2 x54_3).f0))).setCell ⟨gb518, 1, none⟩ (.string ((rd_T33 x7_2 x54_3).f1))).setCell ⟨gb518, 2, none⟩ (.string ((rd_T33 x7_2 x54_3).f2)))) := ⟨bU HB.out⟩
                 (try clear HO_5)
                 (try clear HO_52)
                 (try clear BK497)
                 (try clear BK518)
                 (try clear HB)
                 generalize (((w58.setCell ⟨gb518, 0, none⟩ (.bool ((rd_T33 x7_2 x54_3).f0))).setCell ⟨gb518, 1, none⟩ (.string ((rd_T33 x7_2 x54_3).f1))).setCell ⟨gb518, 2, none⟩ (.string ((rd_T33 x7_2 x54_3).f2))) = w61 at n0_ n1_ n2_ n3_ n4_ ⊢
                 have HO_5 := n0_
                 have HO_52 := n1_
                 have BK497 := n2_
                 have BK518 := n3_
                 have HB := n4_
                 clear n0_ n1_ n2_ n3_ n4_
                 have n0_ := aM (Kd.R_drew HO_5.out)
                 have n1_ := aM (Kd.R_drew HO_52.out)
                 have n2_ := aM (blk_drew BK497.out)
                 have n3_ := aM (blk_drew BK518.out)
                 have n4_ := aM (below_drew1 HB.out)
                 clear HO_5
                 clear HO_52
                 clear BK497
                 clear BK518
                 clear HB
                 have HO_5 := n0_
                 have HO_52 := n1_
                 have BK497 := n2_
                 have BK518 := n3_
                 have HB := n4_
                 clear n0_ n1_ n2_ n3_ n4_
                 refine start_ (n := 16) (S := fun w' => True) (ds := []) #[false, false, false, false, false, false, false, false, false, false, false, false, false, false, false, false] (by kernel_rfl) rfl rfl trivial (fun hHeld => ?_); refine with_tabW party_controlled.tab15 party_controlled.bits15 (fun HT_ HW_ => ?_)
                 generalize w61.drew = w62 at HO_5 HO_52 BK497 BK518 HB hHeld ⊢
                 refine pureq (i := 0) (N := some 59) HT_.out rfl rfl ?_
                 refine pureq (i := 1) (N := some 60) HT_.out rfl rfl ?_
                 refine pureq (i := 2) (N := some 61) HT_.out rfl rfl ?_
                 refine pureq (i := 3) (N := some 62) HT_.out rfl rfl ?_
                 refine pure_ (i := 4) (N := some 63) (v := undef) (a' := ?_) #[true, true, true, true, true, false, false, false, false, false, false, false, false, false, false, false] rfl rfl (any_of HT_.out (by kernel_rfl)) (fun _ _ _ h => h) (Or.inr ⟨by rfl, rfl⟩) ?_ ?_
                 rotate_left
                 ·simp only [Act.put, sTA, sC0, sCS, i64_w, i32_w]
                  rfl
                 refine pure_ (i := 5) (N := some 64) (v := undef) (a' := ?_) #[true, true, true, true, true, true, false, false, false, false, false, false, false, false, false, false] rfl rfl (any_of HT_.out (by kernel_rfl)) (fun _ _ _ h => h) (Or.inr ⟨by rfl, rfl⟩) ?_ ?_
                 rotate_left
                 ·simp only [Act.put, sTA, sC0, sCS, i64_w, i32_w]
                  rfl
                 refine pure_ (i := 6) (N := some 65) (v := undef) (a' := ?_) #[true, true, true, true, true, true, true, false, false, false, false, false, false, false, false, false] rfl rfl (any_of HT_.out (by kernel_rfl)) (fun _ _ _ h => h) (Or.inr ⟨by rfl, rfl⟩) ?_ ?_
                 rotate_left
                 ·simp only [Act.put, sTA, sC0, sCS, i64_w, i32_w]
                  rfl
                 refine pure_ (i := 7) (N := some 66) (v := undef) (a' := ?_) #[true, true, true, true, true, true, true, true, false, false, false, false, false, false, false, false] rfl rfl (any_of HT_.out (by kernel_rfl)) (fun _ _ _ h => h) (Or.inr ⟨by rfl, rfl⟩) ?_ ?_
                 rotate_left
                 ·simp only [Act.put, sTA, sC0, sCS, i64_w, i32_w]
                  rfl
                 refine pure_ (i := 8) (N := some 67) (v := undef) (a' := ?_) #[true, true, true, true, true, true, true, true, true, false, false, false, false, false, false, false] rfl rfl (any_of HT_.out (by kernel_rfl)) (fun _ _ _ h => h) (Or.inr ⟨by rfl, rfl⟩) ?_ ?_
                 rotate_left
                 ·simp only [Act.put, sTA, sC0, sCS, i64_w, i32_w]
                  rfl
                 refine pureq (i := 9) (N := some 68) HT_.out rfl rfl ?_
                 refine pureq (i := 10) (N := some 69) HT_.out rfl rfl ?_
                 refine pure_ (i := 11) (N := some 70) (v := undef) (a' := ?_) #[true, true, true, true, true, true, true, true, true, true, true, true, false, false, false, false] rfl rfl (any_of HT_.out (by kernel_rfl)) (fun _ _ _ h => h) (Or.inr ⟨by rfl, rfl⟩) ?_ ?_
                 rotate_left
                 ·simp only [Act.put, sTA, sC0, sCS, i64_w, i32_w]
                  rfl
                 refine pure_ (i := 12) (N := some 71) (v := undef) (a' := ?_) #[true, true, true, true, true, true, true, true, true, true, true, true, true, false, false, false] rfl rfl (any_of HT_.out (by kernel_rfl)) (fun _ _ _ h => h) (Or.inr ⟨by rfl, rfl⟩) ?_ ?_
                 rotate_left
                 ·simp only [Act.put, sTA, sC0, sCS, i64_w, i32_w]
                  rfl
                 refine pure_ (i := 13) (N := some 72) (v := undef) (a' := ?_) #[true, true, true, true, true, true, true, true, true, true, true, true, true, true, false, false] rfl rfl (any_of HT_.out (by kernel_rfl)) (fun _ _ _ h => h) (Or.inr ⟨by rfl, rfl⟩) ?_ ?_
                 rotate_left
                 ·simp only [Act.put, sTA, sC0, sCS, i64_w, i32_w]
                  rfl
                 refine pure_ (i := 14) (N := some 73) (v := undef) (a' := ?_) #[true, true, true, true, true, true, true, true, true, true, true, true, true, true, true, false] rfl rfl (any_of HT_.out (by kernel_rfl)) (fun _ _ _ h => h) (Or.inr ⟨by rfl, rfl⟩) ?_ ?_
                 rotate_left
                 ·simp only [Act.put, sTA, sC0, sCS, i64_w, i32_w]
                  rfl
                 refine pureq (i := 15) (N := some 74) HT_.out rfl rfl ?_
                 refine done_ (done_of HT_.out (by kernel_rfl)) ?_
                 try go_wp2
                 go_roundg k3
                 case measure => have := HK1.out; have := HK2.out; have := HK3.out; omega
                 case rel => exact ⟨(x5_3), (x6_3), (wrap64 (x54_3 + 1)), (by first | rfl | (simp; done) | (simp [*]; done)), (by first | rfl | (simp; done) | (simp [*]; done)), H', ⟨by have := HK1.out; have := HK2.out; have := HK3.out; omega⟩, ⟨Kd.R_up HO_5.out⟩, ⟨Kd.R_up (Kd.R_mono HO_52.out (fun _ hk => trivial))⟩, ⟨kU BK497.out⟩, ⟨bU HB.out⟩⟩
                ·rw [if_neg c57] at H
                 have c57b0 : (x54_3 == a1) = false := beq_eq_false_iff_ne.mpr c57
                 have c57b1 : (x54_3 != a1) = true := bne_iff_ne.mpr c57
                 by_cases c63 : x54_3 < (x5_3.length : Int)
                 ·rw [if_pos c63] at H
                  have c63b0 := decide_eq_true c63
                  clear c63
                  obtain ⟨bq64, hbq64⟩ : ∃ b_ : Bool, b_ = (rdOf false x5_3 x54_3) := ⟨_, rfl⟩
                  replace H : (if bq64 = true then (party_controlled.l2 k3 a1 x5_3 x6_3 x7_2 (x7_2.length : Int) (wrap64 (x54_3 + 1)) l0_0 l0_1 l0_2) else ((party_half.f k3).bind fun bt520 => ((rational_Compare.f k3 ((rd_T33 x7_2 x54_3).f0) ((rd_T33 x7_2 x54_3).f1) ((rd_T33 x7_2 x54_3).f2) bt520.1 bt520.2.1 bt520.2.2).bind fun t523 => (if t523 > 0 then (party_controlled.l2 k3 a1 (x5_3.set (x54_3 : Int).toNat true) true x7_2 (x7_2.length : Int) (wrap64 (x54_3 + 1)) l0_0 l0_1 l0_2) else (party_controlled.l2 k3 a1 x5_3 x6_3 x7_2 (x7_2.length : Int) (wrap64 (x54_3 + 1)) l0_0 l0_1 l0_2))))) = some r := by rw [← hbq64] at H; exact H
                  have Nbq64 := Aside0.mk hbq64
                  clear hbq64
                  by_cases c65 : bq64 = true
                  ·subst c65
                   have H1 : (party_controlled.l2 k3 a1 x5_3 x6_3 x7_2 (x7_2.length : Int) (wrap64 (x54_3 + 1)) l0_0 l0_1 l0_2) = some r := by rw [if_pos rfl] at H; exact H
                   clear H
                   have H := H1
                   clear H1
                   have H' := Aside0.mk H
                   clear H
                   have p517 : 0 ≤ (x54_3 : Int) := oD
                   have q517 : x54_3 < (x7_2.length : Int) := oD
                   obtain ⟨ad517, e517, hx517_0, hx517_1, hx517_2⟩ := at_T33 (Kd.R_reads' HO_52.out).2.2 x54_3 p517 q517
                   (try rw [← Nbq64.out] at hx517_0)
                   cases e517
                   replace p517 := eq_true p517
                   replace q517 := eq_true q517
                   try go_wp2_with (first | ((with_reducible refine gate_dst (N := 11) rfl ?_); refine box_event ?hg (N := 11) ?hd (cs := #[.bool false, .string (⟨#[]⟩ : ByteArray), .string (⟨#[]⟩ : ByteArray)]) (t := 33) ?hr ?_; (case hd => rfl); (case hg => rfl); (case hr => first | (go_simp; done) | (go_simp; rfl)); intro gb518 hg w66 hbox hb; have n0_ := aM (Kd.R_below (Kd.R_up HO_5.out) hb); have n1_ := aM (Kd.R_below (Kd.R_elderB (Kd.R_up HO_52.out) gb518 (Nat.le_of_eq hg.symm)) hb); have n2_ := aM (blk_below (kU BK497.out) hb); have n3_ := aM (below_step (bU HB.out) hb); have n4_ := aM (hbox); have n5_ := aM ((by rw [hg]; exact (below_size (bU HB.out)) : w.heap.size ≤ gb518)); have n6_ := aM ((by rw [hg]; exact (below_size (bU HB.out)) : w.heap.size ≤ gb518)); have n7_ := aM ((by rw [hg]; exact Nat.ne_of_lt (blk_lt (kU BK497.out)) : gb497 ≠ gb518)); have n8_ := aM ((by rw [hg]; exact Nat.ne_of_gt (blk_lt (kU BK497.out)) : gb518 ≠ gb497)); clear HO_5; clear HO_52; clear BK497; clear HB; have HO_5 := n0_; have HO_52 := n1_; have BK497 := n2_; have HB := n3_; have BK518 := n4_; have GW518 := n5_; have GE518 := n6_; have NB497_518 := n7_; have NB518_497 := n8_; clear n0_ n1_ n2_ n3_ n4_ n5_ n6_ n7_ n8_; clear hb hbox hg; have hnb67 := NB518_497.out; have hnc67 := NB497_518.out; obtain ⟨hcz68_0, hcz68_1, hcz68_2, hfz68_0, hfz68_1, hfz68_2⟩ := cz3 BK518.out))
                   have n0_ : Aside0 (Kd.R Kd.bool 4 (((w66.setCell ⟨gb518, 0, none⟩ (.bool ((rd_T33 x7_2 x54_3).f0))).setCell ⟨gb518, 1, none⟩ (.string ((rd_T33 x7_2 x54_3).f1))).setCell ⟨gb518, 2, none⟩ (.string ((rd_T33 x7_2 x54_3).f2))) w.heap.size (fun _ => True) v499 x5_3) := ⟨Kd.R_up (Kd.R_mono (Kd.R_far (p := ⟨gb518, 2, none⟩) (Kd.R_far (p := ⟨gb518, 1, none⟩) (Kd.R_far (p := ⟨gb518, 0, none⟩) (Kd.R_types HO_5.out BK518.out (by decide)) (fun _ hk => hk.2) (.bool ((rd_T33 x7_2 x54_3).f0))) (fun _ hk => hk.2) (.string ((rd_T33 x7_2 x54_3).f1))) (fun _ hk => hk.2) (.string ((rd_T33 x7_2 x54_3).f2))) (fun _ hk => trivial))⟩
                   have n1_ : Aside0 (Kd.R k33 33 (((w66.setCell ⟨gb518, 0, none⟩ (.bool ((rd_T33 x7_2 x54_3).f0))).setCell ⟨gb518, 1, none⟩ (.string ((rd_T33 x7_2 x54_3).f1))).setCell ⟨gb518, 2, none⟩ (.string ((rd_T33 x7_2 x54_3).f2))) w.heap.size (fun k_ => k_ ≠ gb518) (.slice (some ad517) x7_2.length co53) x7_2) := ⟨Kd.R_up (Kd.R_mono (Kd.R_far (p := ⟨gb518, 2, none⟩) (Kd.R_far (p := ⟨gb518, 1, none⟩) (Kd.R_far (p := ⟨gb518, 0, none⟩) (Kd.R_mono HO_52.out (fun k_ hk => (⟨hk, hk.2⟩ : _ ∧ k_ ≠ gb518))) (fun _ hk => hk.2) (.bool ((rd_T33 x7_2 x54_3).f0))) (fun _ hk => hk.2) (.string ((rd_T33 x7_2 x54_3).f1))) (fun _ hk => hk.2) (.string ((rd_T33 x7_2 x54_3).f2))) (fun _ hk => hk.1.2))⟩
                   have n2_ : Aside0 ((((w66.setCell ⟨gb518, 0, none⟩ (.bool ((rd_T33 x7_2 x54_3).f0))).setCell ⟨gb518, 1, none⟩ (.string ((rd_T33 x7_2 x54_3).f1))).setCell ⟨gb518, 2, none⟩ (.string ((rd_T33 x7_2 x54_3).f2))).heap[gb497]? = some (.cells #[.slice A0_0 l0_0.length c0_0, .slice A0_1 l0_1.length c0_1, .slice A0_2 l0_2.length c0_2] 26 (0, 0))) := ⟨kP BK497.out⟩
                   have n3_ : Aside0 ((((w66.setCell ⟨gb518, 0, none⟩ (.bool ((rd_T33 x7_2 x54_3).f0))).setCell ⟨gb518, 1, none⟩ (.string ((rd_T33 x7_2 x54_3).f1))).setCell ⟨gb518, 2, none⟩ (.string ((rd_T33 x7_2 x54_3).f2))).heap[gb518]? = some (.cells #[.bool ((rd_T33 x7_2 x54_3).f0), .string ((rd_T33 x7_2 x54_3).f1), .string ((rd_T33 x7_2 x54_3).f2)] 33 (0, 0))) := ⟨kP BK518.out⟩
                   have n4_ : Aside0 (Below w.heap.size w (((w66.setCell ⟨gb518, 0, none⟩ (.bool ((rd_T33 x7_2 x54_3).f0))).setCell ⟨gb518, 1, none⟩ (.string ((rd_T33 x7_2 x54_3).f1))).setCell ⟨gb518, 2, none⟩ (.string ((rd_T33 x7_2 x54_3).f2)))) := ⟨bU HB.out⟩
                   (try clear HO_5)
                   (try clear HO_52)
                   (try clear BK497)
                   (try clear BK518)
                   (try clear HB)
                   generalize (((w66.setCell ⟨gb518, 0, none⟩ (.bool ((rd_T33 x7_2 x54_3).f0))).setCell ⟨gb518, 1, none⟩ (.string ((rd_T33 x7_2 x54_3).f1))).setCell ⟨gb518, 2, none⟩ (.string ((rd_T33 x7_2 x54_3).f2))) = w69 at n0_ n1_ n2_ n3_ n4_ ⊢
                   have HO_5 := n0_
                   have HO_52 := n1_
                   have BK497 := n2_
                   have BK518 := n3_
                   have HB := n4_
                   clear n0_ n1_ n2_ n3_ n4_
                   have n0_ := aM (Kd.R_drew HO_5.out)
                   have n1_ := aM (Kd.R_drew HO_52.out)
                   have n2_ := aM (blk_drew BK497.out)
                   have n3_ := aM (blk_drew BK518.out)
                   have n4_ := aM (below_drew1 HB.out)
                   clear HO_5
                   clear HO_52
                   clear BK497
                   clear BK518
                   clear HB
                   have HO_5 := n0_
                   have HO_52 := n1_
                   have BK497 := n2_
                   have BK518 := n3_
                   have HB := n4_
                   clear n0_ n1_ n2_ n3_ n4_
                   obtain ⟨Ao71, co71, eo71⟩ := Kd.R_slice HO_5.out
                   (first | subst eo71 | (injection eo71 with f1_ f2_ f3_; have f4_ := f1_.symm; have f5_ := f3_.symm; clear f1_ f2_ f3_; subst f4_; subst f5_))
                   have p519 : 0 ≤ (x54_3 : Int) := oD
                   have q519 : x54_3 < (x5_3.length : Int) := oD
                   obtain ⟨ad519, e519, hx519_0⟩ := Kd.at_bool (Kd.R_reads' HO_5.out).2.2 x54_3 p519 q519
                   (try rw [← Nbq64.out] at hx519_0)
                   cases e519
                   replace p519 := eq_true p519
                   replace q519 := eq_true q519
                   refine start_ (n := 16) (S := fun w' => w'.cell? (ad519.add (x54_3).toNat) = some (.bool true)) (ds := []) #[false, false, false, false, false, false, false, false, false, false, false, false, false, false, false, false] (by kernel_rfl) rfl rfl (hx519_0) (fun hHeld => ?_); refine with_tabW party_controlled.tab15 party_controlled.bits15 (fun HT_ HW_ => ?_)
                   generalize w69.drew = w70 at HO_5 HO_52 BK497 BK518 HB hx519_0 hHeld ⊢
                   refine pureq (i := 0) (N := some 59) HT_.out rfl rfl ?_
                   refine pureq (i := 1) (N := some 60) HT_.out rfl rfl ?_
                   refine pureq (i := 2) (N := some 61) HT_.out rfl rfl ?_
                   refine pureq (i := 3) (N := some 62) HT_.out rfl rfl ?_
                   refine pureq (i := 4) (N := some 63) HT_.out rfl rfl ?_
                   refine pureq (i := 5) (N := some 64) HT_.out rfl rfl ?_
                   refine pureq (i := 6) (N := some 65) HT_.out rfl rfl ?_
                   refine take_ (i := 7) (N := some 66) (v := ?_) (a' := ?_) #[true, true, true, true, true, true, true, true, false, false, false, false, false, false, false, false] rfl rfl (take_ofW HT_.out HW_.out (by kernel_rfl)) (fun _ _ _ h => h) (Or.inl ⟨by rfl, ?_⟩) hHeld ?_ ?_
                   rotate_left
                   ·intro w' s0
                    go_simp
                    with_reducible rfl
                   rotate_left
                   ·simp only [Act.put, sTA, sC0, sCS, i64_w, i32_w]
                    rfl
                   refine pureq (i := 8) (N := some 67) HT_.out rfl rfl ?_
                   refine pureq (i := 9) (N := some 68) HT_.out rfl rfl ?_
                   refine pureq (i := 10) (N := some 69) HT_.out rfl rfl ?_
                   refine pure_ (i := 11) (N := some 70) (v := undef) (a' := ?_) #[true, true, true, true, true, true, true, true, true, true, true, true, false, false, false, false] rfl rfl (any_of HT_.out (by kernel_rfl)) (fun _ _ _ h => h) (Or.inr ⟨by rfl, rfl⟩) ?_ ?_
                   rotate_left
                   ·simp only [Act.put, sTA, sC0, sCS, i64_w, i32_w]
                    rfl
                   refine pure_ (i := 12) (N := some 71) (v := undef) (a' := ?_) #[true, true, true, true, true, true, true, true, true, true, true, true, true, false, false, false] rfl rfl (any_of HT_.out (by kernel_rfl)) (fun _ _ _ h => h) (Or.inr ⟨by rfl, rfl⟩) ?_ ?_
                   rotate_left
                   ·simp only [Act.put, sTA, sC0, sCS, i64_w, i32_w]
                    rfl
                   refine pure_ (i := 13) (N := some 72) (v := undef) (a' := ?_) #[true, true, true, true, true, true, true, true, true, true, true, true, true, true, false, false] rfl rfl (any_of HT_.out (by kernel_rfl)) (fun _ _ _ h => h) (Or.inr ⟨by rfl, rfl⟩) ?_ ?_
                   rotate_left
                   ·simp only [Act.put, sTA, sC0, sCS, i64_w, i32_w]
                    rfl
                   refine pure_ (i := 14) (N := some 73) (v := undef) (a' := ?_) #[true, true, true, true, true, true, true, true, true, true, true, true, true, true, true, false] rfl rfl (any_of HT_.out (by kernel_rfl)) (fun _ _ _ h => h) (Or.inr ⟨by rfl, rfl⟩) ?_ ?_
                   rotate_left
                   ·simp only [Act.put, sTA, sC0, sCS, i64_w, i32_w]
                    rfl
                   refine pureq (i := 15) (N := some 74) HT_.out rfl rfl ?_
                   refine done_ (done_of HT_.out (by kernel_rfl)) ?_
                   try go_wp2
                   go_roundg k3
                   case measure => have := HK1.out; have := HK2.out; have := HK3.out; omega
                   case rel => exact ⟨(x5_3), (x6_3), (wrap64 (x54_3 + 1)), (by first | rfl | (simp; done) | (simp [*]; done)), (by first | rfl | (simp; done) | (simp [*]; done)), H', ⟨by have := HK1.out; have := HK2.out; have := HK3.out; omega⟩, ⟨Kd.R_up HO_5.out⟩, ⟨Kd.R_up (Kd.R_mono HO_52.out (fun _ hk => trivial))⟩, ⟨kU BK497.out⟩, ⟨bU HB.out⟩⟩
                  ·replace c65 := Bool.eq_false_iff.mpr c65
                   subst c65
                   have H1 : ((party_half.f k3).bind fun bt520 => ((rational_Compare.f k3 ((rd_T33 x7_2 x54_3).f0) ((rd_T33 x7_2 x54_3).f1) ((rd_T33 x7_2 x54_3).f2) bt520.1 bt520.2.1 bt520.2.2).bind fun t523 => (if t523 > 0 then (party_controlled.l2 k3 a1 (x5_3.set (x54_3 : Int).toNat true) true x7_2 (x7_2.length : Int) (wrap64 (x54_3 + 1)) l0_0 l0_1 l0_2) else (party_controlled.l2 k3 a1 x5_3 x6_3 x7_2 (x7_2.length : Int) (wrap64 (x54_3 + 1)) l0_0 l0_1 l0_2)))) = some r := by rw [if_neg (show ¬ (false = true) by decide)] at H; exact H
                   clear H
                   have H := H1
                   clear H1
                   replace H := bE H
                   obtain ⟨⟨t520, t521, t522⟩, A720, H⟩ := H
                   replace H : ((rational_Compare.f k3 ((rd_T33 x7_2 x54_3).f0) ((rd_T33 x7_2 x54_3).f1) ((rd_T33 x7_2 x54_3).f2) t520 t521 t522).bind fun t523 => (if t523 > 0 then (party_controlled.l2 k3 a1 (x5_3.set (x54_3 : Int).toNat true) true x7_2 (x7_2.length : Int) (wrap64 (x54_3 + 1)) l0_0 l0_1 l0_2) else (party_controlled.l2 k3 a1 x5_3 x6_3 x7_2 (x7_2.length : Int) (wrap64 (x54_3 + 1)) l0_0 l0_1 l0_2))) = some r := H
                   have A72 := Aside0.mk A720
                   clear A720
                   replace H := bE H
                   obtain ⟨t523, A730, H⟩ := H
                   replace H : (if t523 > 0 then (party_controlled.l2 k3 a1 (x5_3.set (x54_3 : Int).toNat true) true x7_2 (x7_2.length : Int) (wrap64 (x54_3 + 1)) l0_0 l0_1 l0_2) else (party_controlled.l2 k3 a1 x5_3 x6_3 x7_2 (x7_2.length : Int) (wrap64 (x54_3 + 1)) l0_0 l0_1 l0_2)) = some r := H
                   have A73 := Aside0.mk A730
                   clear A730
                   by_cases c74 : t523 > 0
                   ·rw [if_pos c74] at H
                    have c74b0 : decide (0 < t523) = true := decide_eq_true c74
                    clear c74
                    obtain ⟨y524, hy524⟩ : ∃ y_ : List Bool, y_ = (x5_3.set (x54_3 : Int).toNat true) := ⟨_, rfl⟩
                    replace H : (party_controlled.l2 k3 a1 y524 true x7_2 (x7_2.length : Int) (wrap64 (x54_3 + 1)) l0_0 l0_1 l0_2) = some r := by first | (rw [hy524]; with_reducible exact H) | (have H2_ := (Option.bind_some _ _).symm.trans H; rw [hy524]; with_reducible exact H2_) | (have H2_ := (Option.bind_some _ _).symm.trans H; with_reducible exact H2_) | with_reducible exact H | (rw [hy524]; exact H) | exact H
                    have Ny524 := Aside0.mk hy524
                    clear hy524
                    have H' := Aside0.mk H
                    clear H
                    have p517 : 0 ≤ (x54_3 : Int) := oD
                    have q517 : x54_3 < (x7_2.length : Int) := oD
                    obtain ⟨ad517, e517, hx517_0, hx517_1, hx517_2⟩ := at_T33 (Kd.R_reads' HO_52.out).2.2 x54_3 p517 q517
                    (try rw [← Nbq64.out] at hx517_0)
                    cases e517
                    replace p517 := eq_true p517
                    replace q517 := eq_true q517
                    try go_wp2_with (first | ((with_reducible refine gate_dst (N := 11) rfl ?_); refine box_event ?hg (N := 11) ?hd (cs := #[.bool false, .string (⟨#[]⟩ : ByteArray), .string (⟨#[]⟩ : ByteArray)]) (t := 33) ?hr ?_; (case hd => rfl); (case hg => rfl); (case hr => first | (go_simp; done) | (go_simp; rfl)); intro gb518 hg w76 hbox hb; have n0_ := aM (Kd.R_below (Kd.R_up HO_5.out) hb); have n1_ := aM (Kd.R_below (Kd.R_elderB (Kd.R_up HO_52.out) gb518 (Nat.le_of_eq hg.symm)) hb); have n2_ := aM (blk_below (kU BK497.out) hb); have n3_ := aM (below_step (bU HB.out) hb); have n4_ := aM (hbox); have n5_ := aM ((by rw [hg]; exact (below_size (bU HB.out)) : w.heap.size ≤ gb518)); have n6_ := aM ((by rw [hg]; exact (below_size (bU HB.out)) : w.heap.size ≤ gb518)); have n7_ := aM ((by rw [hg]; exact Nat.ne_of_lt (blk_lt (kU BK497.out)) : gb497 ≠ gb518)); have n8_ := aM ((by rw [hg]; exact Nat.ne_of_gt (blk_lt (kU BK497.out)) : gb518 ≠ gb497)); clear HO_5; clear HO_52; clear BK497; clear HB; have HO_5 := n0_; have HO_52 := n1_; have BK497 := n2_; have HB := n3_; have BK518 := n4_; have GW518 := n5_; have GE518 := n6_; have NB497_518 := n7_; have NB518_497 := n8_; clear n0_ n1_ n2_ n3_ n4_ n5_ n6_ n7_ n8_; clear hb hbox hg; have hnb77 := NB518_497.out; have hnc77 := NB497_518.out; obtain ⟨hcz78_0, hcz78_1, hcz78_2, hfz78_0, hfz78_1, hfz78_2⟩ := cz3 BK518.out))
                    have n0_ : Aside0 (Kd.R Kd.bool 4 (((w76.setCell ⟨gb518, 0, none⟩ (.bool ((rd_T33 x7_2 x54_3).f0))).setCell ⟨gb518, 1, none⟩ (.string ((rd_T33 x7_2 x54_3).f1))).setCell ⟨gb518, 2, none⟩ (.string ((rd_T33 x7_2 x54_3).f2))) w.heap.size (fun _ => True) v499 x5_3) := ⟨Kd.R_up (Kd.R_mono (Kd.R_far (p := ⟨gb518, 2, none⟩) (Kd.R_far (p := ⟨gb518, 1, none⟩) (Kd.R_far (p := ⟨gb518, 0, none⟩) (Kd.R_types HO_5.out BK518.out (by decide)) (fun _ hk => hk.2) (.bool ((rd_T33 x7_2 x54_3).f0))) (fun _ hk => hk.2) (.string ((rd_T33 x7_2 x54_3).f1))) (fun _ hk => hk.2) (.string ((rd_T33 x7_2 x54_3).f2))) (fun _ hk => trivial))⟩
                    have n1_ : Aside0 (Kd.R k33 33 (((w76.setCell ⟨gb518, 0, none⟩ (.bool ((rd_T33 x7_2 x54_3).f0))).setCell ⟨gb518, 1, none⟩ (.string ((rd_T33 x7_2 x54_3).f1))).setCell ⟨gb518, 2, none⟩ (.string ((rd_T33 x7_2 x54_3).f2))) w.heap.size (fun k_ => k_ ≠ gb518) (.slice (some ad517) x7_2.length co53) x7_2) := ⟨Kd.R_up (Kd.R_mono (Kd.R_far (p := ⟨gb518, 2, none⟩) (Kd.R_far (p := ⟨gb518, 1, none⟩) (Kd.R_far (p := ⟨gb518, 0, none⟩) (Kd.R_mono HO_52.out (fun k_ hk => (⟨hk, hk.2⟩ : _ ∧ k_ ≠ gb518))) (fun _ hk => hk.2) (.bool ((rd_T33 x7_2 x54_3).f0))) (fun _ hk => hk.2) (.string ((rd_T33 x7_2 x54_3).f1))) (fun _ hk => hk.2) (.string ((rd_T33 x7_2 x54_3).f2))) (fun _ hk => hk.1.2))⟩
                    have n2_ : Aside0 ((((w76.setCell ⟨gb518, 0, none⟩ (.bool ((rd_T33 x7_2 x54_3).f0))).setCell ⟨gb518, 1, none⟩ (.string ((rd_T33 x7_2 x54_3).f1))).setCell ⟨gb518, 2, none⟩ (.string ((rd_T33 x7_2 x54_3).f2))).heap[gb497]? = some (.cells #[.slice A0_0 l0_0.length c0_0, .slice A0_1 l0_1.length c0_1, .slice A0_2 l0_2.length c0_2] 26 (0, 0))) := ⟨kP BK497.out⟩
                    have n3_ : Aside0 ((((w76.setCell ⟨gb518, 0, none⟩ (.bool ((rd_T33 x7_2 x54_3).f0))).setCell ⟨gb518, 1, none⟩ (.string ((rd_T33 x7_2 x54_3).f1))).setCell ⟨gb518, 2, none⟩ (.string ((rd_T33 x7_2 x54_3).f2))).heap[gb518]? = some (.cells #[.bool ((rd_T33 x7_2 x54_3).f0), .string ((rd_T33 x7_2 x54_3).f1), .string ((rd_T33 x7_2 x54_3).f2)] 33 (0, 0))) := ⟨kP BK518.out⟩
                    have n4_ : Aside0 (Below w.heap.size w (((w76.setCell ⟨gb518, 0, none⟩ (.bool ((rd_T33 x7_2 x54_3).f0))).setCell ⟨gb518, 1, none⟩ (.string ((rd_T33 x7_2 x54_3).f1))).setCell ⟨gb518, 2, none⟩ (.string ((rd_T33 x7_2 x54_3).f2)))) := ⟨bU HB.out⟩
                    (try clear HO_5)
                    (try clear HO_52)
                    (try clear BK497)
                    (try clear BK518)
                    (try clear HB)
                    generalize (((w76.setCell ⟨gb518, 0, none⟩ (.bool ((rd_T33 x7_2 x54_3).f0))).setCell ⟨gb518, 1, none⟩ (.string ((rd_T33 x7_2 x54_3).f1))).setCell ⟨gb518, 2, none⟩ (.string ((rd_T33 x7_2 x54_3).f2))) = w79 at n0_ n1_ n2_ n3_ n4_ ⊢
                    have HO_5 := n0_
                    have HO_52 := n1_
                    have BK497 := n2_
                    have BK518 := n3_
                    have HB := n4_
                    clear n0_ n1_ n2_ n3_ n4_
                    have n0_ := aM (Kd.R_drew HO_5.out)
                    have n1_ := aM (Kd.R_drew HO_52.out)
                    have n2_ := aM (blk_drew BK497.out)
                    have n3_ := aM (blk_drew BK518.out)
                    have n4_ := aM (below_drew1 HB.out)
                    clear HO_5
                    clear HO_52
                    clear BK497
                    clear BK518
                    clear HB
                    have HO_5 := n0_
                    have HO_52 := n1_
                    have BK497 := n2_
                    have BK518 := n3_
                    have HB := n4_
                    clear n0_ n1_ n2_ n3_ n4_
                    obtain ⟨Ao81, co81, eo81⟩ := Kd.R_slice HO_5.out
                    (first | subst eo81 | (injection eo81 with f1_ f2_ f3_; have f4_ := f1_.symm; have f5_ := f3_.symm; clear f1_ f2_ f3_; subst f4_; subst f5_))
                    have p519 : 0 ≤ (x54_3 : Int) := oD
                    have q519 : x54_3 < (x5_3.length : Int) := oD
                    obtain ⟨ad519, e519, hx519_0⟩ := Kd.at_bool (Kd.R_reads' HO_5.out).2.2 x54_3 p519 q519
                    (try rw [← Nbq64.out] at hx519_0)
                    cases e519
                    replace p519 := eq_true p519
                    replace q519 := eq_true q519
                    refine start_ (n := 16) (S := fun w' => w'.cell? ⟨gb518, 0, none⟩ = some (.bool ((rd_T33 x7_2 x54_3).f0)) ∧ w'.cell? ⟨gb518, 1, none⟩ = some (.string ((rd_T33 x7_2 x54_3).f1)) ∧ w'.cell? ⟨gb518, 2, none⟩ = some (.string ((rd_T33 x7_2 x54_3).f2)) ∧ w'.cell? (ad519.add (x54_3).toNat) = some (.bool false)) (ds := []) #[false, false, false, false, false, false, false, false, false, false, false, false, false, false, false, false] (by kernel_rfl) rfl rfl ⟨(blk_cell BK518.out 0).trans rfl, (blk_cell BK518.out 1).trans rfl, (blk_cell BK518.out 2).trans rfl, hx519_0⟩ (fun hHeld => ?_); refine with_tabW party_controlled.tab15 party_controlled.bits15 (fun HT_ HW_ => ?_)
                    generalize w79.drew = w80 at HO_5 HO_52 BK497 BK518 HB hx519_0 hHeld ⊢
                    refine pureq (i := 0) (N := some 59) HT_.out rfl rfl ?_
                    refine pureq (i := 1) (N := some 60) HT_.out rfl rfl ?_
                    refine pureq (i := 2) (N := some 61) HT_.out rfl rfl ?_
                    refine pureq (i := 3) (N := some 62) HT_.out rfl rfl ?_
                    refine pureq (i := 4) (N := some 63) HT_.out rfl rfl ?_
                    refine pureq (i := 5) (N := some 64) HT_.out rfl rfl ?_
                    refine pureq (i := 6) (N := some 65) HT_.out rfl rfl ?_
                    refine takeq (i := 7) (N := some 66) HT_.out HW_.out hHeld rfl rfl ?_
                    refine pureq (i := 8) (N := some 67) HT_.out rfl rfl ?_
                    refine pureq (i := 9) (N := some 68) HT_.out rfl rfl ?_
                    refine pureq (i := 10) (N := some 69) HT_.out rfl rfl ?_
                    refine takeq (i := 11) (N := some 70) HT_.out HW_.out hHeld rfl rfl ?_
                    refine one_ (i := 12) (N := some 71) #[true, true, true, true, true, true, true, true, true, true, true, true, true, false, false, false] rfl rfl (one_of HT_.out (by kernel_rfl)) (by decide) (fun K hK => ?_)
                    refine goesq Tryd.func49 #[] (by rfl) rfl rfl ?_
                    with_reducible refine (party_half.calls k3  t520 t521 t522 _ A72.out).mono ?_
                    rintro e w82 ⟨rfl, hb⟩
                    have HS3_ := (hb.cell (World.block_lt_of_cell? _ _ (hHeld.2.2.2))).trans (hHeld.2.2.2)
                    refine ⟨_, rfl, ?_⟩
                    have n0_ := aM (Kd.R_below (Kd.R_up HO_5.out) hb)
                    have n1_ := aM (Kd.R_below (Kd.R_up HO_52.out) hb)
                    have n2_ := aM (blk_below (kU BK497.out) hb)
                    have n3_ := aM (blk_below (kU BK518.out) hb)
                    have n4_ := aM (below_step (bU HB.out) hb)
                    clear HO_5
                    clear HO_52
                    clear BK497
                    clear BK518
                    clear HB
                    have HO_5 := n0_
                    have HO_52 := n1_
                    have BK497 := n2_
                    have BK518 := n3_
                    have HB := n4_
                    clear n0_ n1_ n2_ n3_ n4_
                    (try clear hb)
                    (try clear hb2)
                    (try clear hk)
                    (try clear hi)
                    refine hK.out _ _ ⟨(blk_cell BK518.out 0).trans rfl, (blk_cell BK518.out 1).trans rfl, (blk_cell BK518.out 2).trans rfl, HS3_⟩ (fun hHeld => ?_)
                    clear hK K
                    refine norm_ (a' := ?_) ?_ ?_
                    rotate_left
                    ·show Act.put _ (some 71) _ = _
                     simp only [Act.put, sTA, sC0, sCS, i64_w, i32_w]
                     rfl
                    refine one_ (i := 13) (N := some 72) #[true, true, true, true, true, true, true, true, true, true, true, true, true, true, false, false] rfl rfl (one_of HT_.out (by kernel_rfl)) (by decide) (fun K hK => ?_)
                    refine goesq Tryd.func16 #[.agg #[.bool ((rd_T33 x7_2 x54_3).f0), .string ((rd_T33 x7_2 x54_3).f1), .string ((rd_T33 x7_2 x54_3).f2)], .agg #[.bool t520, .string t521, .string t522]] (by rfl) rfl rfl ?_
                    with_reducible refine (rational_Compare.calls k3 ((rd_T33 x7_2 x54_3).f0) ((rd_T33 x7_2 x54_3).f1) ((rd_T33 x7_2 x54_3).f2) t520 t521 t522 t523 _ A73.out).mono ?_
                    rintro e w83 ⟨rfl, hb⟩
                    have HS3_ := (hb.cell (World.block_lt_of_cell? _ _ (hHeld.2.2.2))).trans (hHeld.2.2.2)
                    refine ⟨_, rfl, ?_⟩
                    have n0_ := aM (Kd.R_below (Kd.R_up HO_5.out) hb)
                    have n1_ := aM (Kd.R_below (Kd.R_up HO_52.out) hb)
                    have n2_ := aM (blk_below (kU BK497.out) hb)
                    have n3_ := aM (blk_below (kU BK518.out) hb)
                    have n4_ := aM (below_step (bU HB.out) hb)
                    clear HO_5
                    clear HO_52
                    clear BK497
                    clear BK518
                    clear HB
                    have HO_5 := n0_
                    have HO_52 := n1_
                    have BK497 := n2_
                    have BK518 := n3_
                    have HB := n4_
                    clear n0_ n1_ n2_ n3_ n4_
                    (try clear hb)
                    (try clear hb2)
                    (try clear hk)
                    (try clear hi)
                    refine hK.out _ _ ⟨(blk_cell BK518.out 0).trans rfl, (blk_cell BK518.out 1).trans rfl, (blk_cell BK518.out 2).trans rfl, HS3_⟩ (fun hHeld => ?_)
                    clear hK K
                    refine norm_ (a' := ?_) ?_ ?_
                    rotate_left
                    ·show Act.put _ (some 72) _ = _
                     simp only [Act.put, sTA, sC0, sCS, i64_w, i32_w]
                     rfl
                    refine pureq (i := 14) (N := some 73) HT_.out rfl rfl ?_
                    refine pureq (i := 15) (N := some 74) HT_.out rfl rfl ?_
                    refine done_ (done_of HT_.out (by kernel_rfl)) ?_
                    have p75 : 0 ≤ (x54_3 : Int) := oD
                    have q75 : (x54_3 : Int) < ((x5_3.length : Int) : Int) := oD
                    obtain ⟨go75, co75, eo75, gb75, gl75, cl75, HG75⟩ := Kd.R_form HO_5.out (by omega)
                    (first | cases eo75 | (injection eo75 with ea_ en_ ec_; (first | subst ea_ | (injection ea_ with ea_; subst ea_)); subst ec_; clear en_))
                    have GB75 := Aside0.mk gb75
                    have GG75 := Aside0.mk HG75
                    clear gb75 gl75 HG75
                    (first | simp only [add_plain] at hx519_0 | skip)
                    obtain ⟨hx75_0, hf75_0⟩ := Kd.R_celln false HO_5.out (x54_3 : Int) p75 q75
                    replace p75 := eq_true p75
                    replace q75 := eq_true q75
                    obtain ⟨hy84_, hz84_⟩ := Kd.R_celln false HO_5.out (x54_3 : Int) (oD) (oD)
                    have HP84 := Kd.R_putg HO_5.out (x54_3 : Int) true
                    try go_wp2_with (first | ((with_reducible refine gate_store (t := 4) (p := 77) rfl ?_); refine store_event (t := 4) (p := 77) (v := ?vo_w85) (w1 := (w83.setCell ⟨go75, (x54_3 : Int).toNat, none⟩ (.bool true))) ?hg ?ho ?hn ?hr ?_; (case ho => rfl); (case hg => rfl); (case hn => rfl); (case hr => first | (go_simp; done) | (go_simp; rfl)); intro w85 hw; have hg : w83.grownBy w85 (some go75) := (by rw [hw]; exact HP84.2); have hp_ : Kd.R Kd.bool 4 w85 w.heap.size (fun _ => True) (.slice (some ⟨go75, 0, none⟩) x5_3.length co81) y524 := (by rw [hw, Ny524.out]; exact HP84.1); clear HP84; have n0_ := aM (hp_); have n1_ := aM (Kd.R_over' (v := (.slice (some ⟨go75, 0, none⟩) x5_3.length co81)) (Kd.R_up HO_52.out) (Kd.R_typed HO_5.out) (by decide) hg); have n2_ := aM (blk_grown (kU BK497.out) hg (Kd.R_ne HO_5.out BK497.out (by decide))); have n3_ := aM (blk_grown (kU BK518.out) hg (Kd.R_ne HO_5.out BK518.out (by decide))); have n4_ := aM ((by rw [hw]; exact below_set (HB.out) GB75.out : Below w.heap.size w w85)); clear HO_5; clear HO_52; clear BK497; clear BK518; clear HB; have HO_5 := n0_; have HO_52 := n1_; have BK497 := n2_; have BK518 := n3_; have HB := n4_; clear n0_ n1_ n2_ n3_ n4_; clear hg hw hp_))
                    go_roundg k3
                    case measure => have := HK1.out; have := HK2.out; have := HK3.out; omega
                    case rel => exact ⟨(y524), (true), (wrap64 (x54_3 + 1)), (by first | rfl | (simp; done) | (simp [*]; done)), (by first | rfl | (simp; done) | (simp [*]; done)), H', ⟨by have := HK1.out; have := HK2.out; have := HK3.out; omega⟩, ⟨Kd.R_up HO_5.out⟩, ⟨Kd.R_up (Kd.R_mono HO_52.out (fun _ hk => trivial))⟩, ⟨kU BK497.out⟩, ⟨bU HB.out⟩⟩
                   ·rw [if_neg c74] at H
                    have c74b0 : decide (0 < t523) = false := decide_eq_false c74
                    clear c74
                    have H' := Aside0.mk H
                    clear H
                    have p517 : 0 ≤ (x54_3 : Int) := oD
                    have q517 : x54_3 < (x7_2.length : Int) := oD
                    obtain ⟨ad517, e517, hx517_0, hx517_1, hx517_2⟩ := at_T33 (Kd.R_reads' HO_52.out).2.2 x54_3 p517 q517
                    (try rw [← Nbq64.out] at hx517_0)
                    cases e517
                    replace p517 := eq_true p517
                    replace q517 := eq_true q517
                    try go_wp2_with (first | ((with_reducible refine gate_dst (N := 11) rfl ?_); refine box_event ?hg (N := 11) ?hd (cs := #[.bool false, .string (⟨#[]⟩ : ByteArray), .string (⟨#[]⟩ : ByteArray)]) (t := 33) ?hr ?_; (case hd => rfl); (case hg => rfl); (case hr => first | (go_simp; done) | (go_simp; rfl)); intro gb518 hg w86 hbox hb; have n0_ := aM (Kd.R_below (Kd.R_up HO_5.out) hb); have n1_ := aM (Kd.R_below (Kd.R_elderB (Kd.R_up HO_52.out) gb518 (Nat.le_of_eq hg.symm)) hb); have n2_ := aM (blk_below (kU BK497.out) hb); have n3_ := aM (below_step (bU HB.out) hb); have n4_ := aM (hbox); have n5_ := aM ((by rw [hg]; exact (below_size (bU HB.out)) : w.heap.size ≤ gb518)); have n6_ := aM ((by rw [hg]; exact (below_size (bU HB.out)) : w.heap.size ≤ gb518)); have n7_ := aM ((by rw [hg]; exact Nat.ne_of_lt (blk_lt (kU BK497.out)) : gb497 ≠ gb518)); have n8_ := aM ((by rw [hg]; exact Nat.ne_of_gt (blk_lt (kU BK497.out)) : gb518 ≠ gb497)); clear HO_5; clear HO_52; clear BK497; clear HB; have HO_5 := n0_; have HO_52 := n1_; have BK497 := n2_; have HB := n3_; have BK518 := n4_; have GW518 := n5_; have GE518 := n6_; have NB497_518 := n7_; have NB518_497 := n8_; clear n0_ n1_ n2_ n3_ n4_ n5_ n6_ n7_ n8_; clear hb hbox hg; have hnb87 := NB518_497.out; have hnc87 := NB497_518.out; obtain ⟨hcz88_0, hcz88_1, hcz88_2, hfz88_0, hfz88_1, hfz88_2⟩ := cz3 BK518.out))
                    have n0_ : Aside0 (Kd.R Kd.bool 4 (((w86.setCell ⟨gb518, 0, none⟩ (.bool ((rd_T33 x7_2 x54_3).f0))).setCell ⟨gb518, 1, none⟩ (.string ((rd_T33 x7_2 x54_3).f1))).setCell ⟨gb518, 2, none⟩ (.string ((rd_T33 x7_2 x54_3).f2))) w.heap.size (fun _ => True) v499 x5_3) := ⟨Kd.R_up (Kd.R_mono (Kd.R_far (p := ⟨gb518, 2, none⟩) (Kd.R_far (p := ⟨gb518, 1, none⟩) (Kd.R_far (p := ⟨gb518, 0, none⟩) (Kd.R_types HO_5.out BK518.out (by decide)) (fun _ hk => hk.2) (.bool ((rd_T33 x7_2 x54_3).f0))) (fun _ hk => hk.2) (.string ((rd_T33 x7_2 x54_3).f1))) (fun _ hk => hk.2) (.string ((rd_T33 x7_2 x54_3).f2))) (fun _ hk => trivial))⟩
                    have n1_ : Aside0 (Kd.R k33 33 (((w86.setCell ⟨gb518, 0, none⟩ (.bool ((rd_T33 x7_2 x54_3).f0))).setCell ⟨gb518, 1, none⟩ (.string ((rd_T33 x7_2 x54_3).f1))).setCell ⟨gb518, 2, none⟩ (.string ((rd_T33 x7_2 x54_3).f2))) w.heap.size (fun k_ => k_ ≠ gb518) (.slice (some ad517) x7_2.length co53) x7_2) := ⟨Kd.R_up (Kd.R_mono (Kd.R_far (p := ⟨gb518, 2, none⟩) (Kd.R_far (p := ⟨gb518, 1, none⟩) (Kd.R_far (p := ⟨gb518, 0, none⟩) (Kd.R_mono HO_52.out (fun k_ hk => (⟨hk, hk.2⟩ : _ ∧ k_ ≠ gb518))) (fun _ hk => hk.2) (.bool ((rd_T33 x7_2 x54_3).f0))) (fun _ hk => hk.2) (.string ((rd_T33 x7_2 x54_3).f1))) (fun _ hk => hk.2) (.string ((rd_T33 x7_2 x54_3).f2))) (fun _ hk => hk.1.2))⟩
                    have n2_ : Aside0 ((((w86.setCell ⟨gb518, 0, none⟩ (.bool ((rd_T33 x7_2 x54_3).f0))).setCell ⟨gb518, 1, none⟩ (.string ((rd_T33 x7_2 x54_3).f1))).setCell ⟨gb518, 2, none⟩ (.string ((rd_T33 x7_2 x54_3).f2))).heap[gb497]? = some (.cells #[.slice A0_0 l0_0.length c0_0, .slice A0_1 l0_1.length c0_1, .slice A0_2 l0_2.length c0_2] 26 (0, 0))) := ⟨kP BK497.out⟩
                    have n3_ : Aside0 ((((w86.setCell ⟨gb518, 0, none⟩ (.bool ((rd_T33 x7_2 x54_3).f0))).setCell ⟨gb518, 1, none⟩ (.string ((rd_T33 x7_2 x54_3).f1))).setCell ⟨gb518, 2, none⟩ (.string ((rd_T33 x7_2 x54_3).f2))).heap[gb518]? = some (.cells #[.bool ((rd_T33 x7_2 x54_3).f0), .string ((rd_T33 x7_2 x54_3).f1), .string ((rd_T33 x7_2 x54_3).f2)] 33 (0, 0))) := ⟨kP BK518.out⟩
                    have n4_ : Aside0 (Below w.heap.size w (((w86.setCell ⟨gb518, 0, none⟩ (.bool ((rd_T33 x7_2 x54_3).f0))).setCell ⟨gb518, 1, none⟩ (.string ((rd_T33 x7_2 x54_3).f1))).setCell ⟨gb518, 2, none⟩ (.string ((rd_T33 x7_2 x54_3).f2)))) := ⟨bU HB.out⟩
                    (try clear HO_5)
                    (try clear HO_52)
                    (try clear BK497)
                    (try clear BK518)
                    (try clear HB)
                    generalize (((w86.setCell ⟨gb518, 0, none⟩ (.bool ((rd_T33 x7_2 x54_3).f0))).setCell ⟨gb518, 1, none⟩ (.string ((rd_T33 x7_2 x54_3).f1))).setCell ⟨gb518, 2, none⟩ (.string ((rd_T33 x7_2 x54_3).f2))) = w89 at n0_ n1_ n2_ n3_ n4_ ⊢
                    have HO_5 := n0_
                    have HO_52 := n1_
                    have BK497 := n2_
                    have BK518 := n3_
                    have HB := n4_
                    clear n0_ n1_ n2_ n3_ n4_
                    have n0_ := aM (Kd.R_drew HO_5.out)
                    have n1_ := aM (Kd.R_drew HO_52.out)
                    have n2_ := aM (blk_drew BK497.out)
                    have n3_ := aM (blk_drew BK518.out)
                    have n4_ := aM (below_drew1 HB.out)
                    clear HO_5
                    clear HO_52
                    clear BK497
                    clear BK518
                    clear HB
                    have HO_5 := n0_
                    have HO_52 := n1_
                    have BK497 := n2_
                    have BK518 := n3_
                    have HB := n4_
                    clear n0_ n1_ n2_ n3_ n4_
                    obtain ⟨Ao91, co91, eo91⟩ := Kd.R_slice HO_5.out
                    (first | subst eo91 | (injection eo91 with f1_ f2_ f3_; have f4_ := f1_.symm; have f5_ := f3_.symm; clear f1_ f2_ f3_; subst f4_; subst f5_))
                    have p519 : 0 ≤ (x54_3 : Int) := oD
                    have q519 : x54_3 < (x5_3.length : Int) := oD
                    obtain ⟨ad519, e519, hx519_0⟩ := Kd.at_bool (Kd.R_reads' HO_5.out).2.2 x54_3 p519 q519
                    (try rw [← Nbq64.out] at hx519_0)
                    cases e519
                    replace p519 := eq_true p519
                    replace q519 := eq_true q519
                    refine start_ (n := 16) (S := fun w' => w'.cell? ⟨gb518, 0, none⟩ = some (.bool ((rd_T33 x7_2 x54_3).f0)) ∧ w'.cell? ⟨gb518, 1, none⟩ = some (.string ((rd_T33 x7_2 x54_3).f1)) ∧ w'.cell? ⟨gb518, 2, none⟩ = some (.string ((rd_T33 x7_2 x54_3).f2)) ∧ w'.cell? (ad519.add (x54_3).toNat) = some (.bool false)) (ds := []) #[false, false, false, false, false, false, false, false, false, false, false, false, false, false, false, false] (by kernel_rfl) rfl rfl ⟨(blk_cell BK518.out 0).trans rfl, (blk_cell BK518.out 1).trans rfl, (blk_cell BK518.out 2).trans rfl, hx519_0⟩ (fun hHeld => ?_); refine with_tabW party_controlled.tab15 party_controlled.bits15 (fun HT_ HW_ => ?_)
                    generalize w89.drew = w90 at HO_5 HO_52 BK497 BK518 HB hx519_0 hHeld ⊢
                    refine pureq (i := 0) (N := some 59) HT_.out rfl rfl ?_
                    refine pureq (i := 1) (N := some 60) HT_.out rfl rfl ?_
                    refine pureq (i := 2) (N := some 61) HT_.out rfl rfl ?_
                    refine pureq (i := 3) (N := some 62) HT_.out rfl rfl ?_
                    refine pureq (i := 4) (N := some 63) HT_.out rfl rfl ?_
                    refine pureq (i := 5) (N := some 64) HT_.out rfl rfl ?_
                    refine pureq (i := 6) (N := some 65) HT_.out rfl rfl ?_
                    refine takeq (i := 7) (N := some 66) HT_.out HW_.out hHeld rfl rfl ?_
                    refine pureq (i := 8) (N := some 67) HT_.out rfl rfl ?_
                    refine pureq (i := 9) (N := some 68) HT_.out rfl rfl ?_
                    refine pureq (i := 10) (N := some 69) HT_.out rfl rfl ?_
                    refine takeq (i := 11) (N := some 70) HT_.out HW_.out hHeld rfl rfl ?_
                    refine one_ (i := 12) (N := some 71) #[true, true, true, true, true, true, true, true, true, true, true, true, true, false, false, false] rfl rfl (one_of HT_.out (by kernel_rfl)) (by decide) (fun K hK => ?_)
                    refine goesq Tryd.func49 #[] (by rfl) rfl rfl ?_
                    with_reducible refine (party_half.calls k3  t520 t521 t522 _ A72.out).mono ?_
                    rintro e w92 ⟨rfl, hb⟩
                    have HS3_ := (hb.cell (World.block_lt_of_cell? _ _ (hHeld.2.2.2))).trans (hHeld.2.2.2)
                    refine ⟨_, rfl, ?_⟩
                    have n0_ := aM (Kd.R_below (Kd.R_up HO_5.out) hb)
                    have n1_ := aM (Kd.R_below (Kd.R_up HO_52.out) hb)
                    have n2_ := aM (blk_below (kU BK497.out) hb)
                    have n3_ := aM (blk_below (kU BK518.out) hb)
                    have n4_ := aM (below_step (bU HB.out) hb)
                    clear HO_5
                    clear HO_52
                    clear BK497
                    clear BK518
                    clear HB
                    have HO_5 := n0_
                    have HO_52 := n1_
                    have BK497 := n2_
                    have BK518 := n3_
                    have HB := n4_
                    clear n0_ n1_ n2_ n3_ n4_
                    (try clear hb)
                    (try clear hb2)
                    (try clear hk)
                    (try clear hi)
                    refine hK.out _ _ ⟨(blk_cell BK518.out 0).trans rfl, (blk_cell BK518.out 1).trans rfl, (blk_cell BK518.out 2).trans rfl, HS3_⟩ (fun hHeld => ?_)
                    clear hK K
                    refine norm_ (a' := ?_) ?_ ?_
                    rotate_left
                    ·show Act.put _ (some 71) _ = _
                     simp only [Act.put, sTA, sC0, sCS, i64_w, i32_w]
                     rfl
                    refine one_ (i := 13) (N := some 72) #[true, true, true, true, true, true, true, true, true, true, true, true, true, true, false, false] rfl rfl (one_of HT_.out (by kernel_rfl)) (by decide) (fun K hK => ?_)
                    refine goesq Tryd.func16 #[.agg #[.bool ((rd_T33 x7_2 x54_3).f0), .string ((rd_T33 x7_2 x54_3).f1), .string ((rd_T33 x7_2 x54_3).f2)], .agg #[.bool t520, .string t521, .string t522]] (by rfl) rfl rfl ?_
                    with_reducible refine (rational_Compare.calls k3 ((rd_T33 x7_2 x54_3).f0) ((rd_T33 x7_2 x54_3).f1) ((rd_T33 x7_2 x54_3).f2) t520 t521 t522 t523 _ A73.out).mono ?_
                    rintro e w93 ⟨rfl, hb⟩
                    have HS3_ := (hb.cell (World.block_lt_of_cell? _ _ (hHeld.2.2.2))).trans (hHeld.2.2.2)
                    refine ⟨_, rfl, ?_⟩
                    have n0_ := aM (Kd.R_below (Kd.R_up HO_5.out) hb)
                    have n1_ := aM (Kd.R_below (Kd.R_up HO_52.out) hb)
                    have n2_ := aM (blk_below (kU BK497.out) hb)
                    have n3_ := aM (blk_below (kU BK518.out) hb)
                    have n4_ := aM (below_step (bU HB.out) hb)
                    clear HO_5
                    clear HO_52
                    clear BK497
                    clear BK518
                    clear HB
                    have HO_5 := n0_
                    have HO_52 := n1_
                    have BK497 := n2_
                    have BK518 := n3_
                    have HB := n4_
                    clear n0_ n1_ n2_ n3_ n4_
                    (try clear hb)
                    (try clear hb2)
                    (try clear hk)
                    (try clear hi)
                    refine hK.out _ _ ⟨(blk_cell BK518.out 0).trans rfl, (blk_cell BK518.out 1).trans rfl, (blk_cell BK518.out 2).trans rfl, HS3_⟩ (fun hHeld => ?_)
                    clear hK K
                    refine norm_ (a' := ?_) ?_ ?_
                    rotate_left
                    ·show Act.put _ (some 72) _ = _
                     simp only [Act.put, sTA, sC0, sCS, i64_w, i32_w]
                     rfl
                    refine pureq (i := 14) (N := some 73) HT_.out rfl rfl ?_
                    refine pureq (i := 15) (N := some 74) HT_.out rfl rfl ?_
                    refine done_ (done_of HT_.out (by kernel_rfl)) ?_
                    try go_wp2
                    go_roundg k3
                    case measure => have := HK1.out; have := HK2.out; have := HK3.out; omega
                    case rel => exact ⟨(x5_3), (x6_3), (wrap64 (x54_3 + 1)), (by first | rfl | (simp; done) | (simp [*]; done)), (by first | rfl | (simp; done) | (simp [*]; done)), H', ⟨by have := HK1.out; have := HK2.out; have := HK3.out; omega⟩, ⟨Kd.R_up HO_5.out⟩, ⟨Kd.R_up (Kd.R_mono HO_52.out (fun _ hk => trivial))⟩, ⟨kU BK497.out⟩, ⟨bU HB.out⟩⟩
                 ·rw [if_neg c63] at H
                  exact absurd H (by simp)
               ·rw [if_neg c56] at H
                exact absurd H (by simp)
              ·rw [if_neg c55] at H
               exact absurd H (by simp)
             ·rw [if_neg c54] at H
              have c54b0 := decide_eq_false c54
              clear c54
              have H' := Aside0.mk H
              clear H
              go_wp2
              go_roundg k3
              case measure => have := HK1.out; have := HK2.out; have := HK3.out; omega
              case rel => exact ⟨(x5_3), (x6_3), (by first | rfl | (simp; done) | (simp [*]; done)), H', ⟨by have := HK1.out; have := HK2.out; have := HK3.out; omega⟩, ⟨Kd.R_up HO_5.out⟩, ⟨kU BK497.out⟩, ⟨bU HB.out⟩⟩
       ·rw [if_neg c11] at H
        exact absurd H (by simp)
      ·rw [if_neg c10] at H
       exact absurd H (by simp)
     ·replace c9 := Bool.eq_false_iff.mpr c9
      subst c9
      have H1 : (some x5_1) = some r := by rw [if_neg (show ¬ (false = true) by decide)] at H; exact H
      clear H
      have H := H1
      clear H1
      obtain rfl := Option.some.inj H
      go_wp2
      go_ret
      exact ⟨_, by first | rfl | (simp [errW_none, errW_some] <;> rfl) | (simp [*, errW_none, errW_some] <;> rfl), Kd.R_up HO_5.out, bU HB.out⟩
  ·rw [if_neg c4] at H
   exact absurd H (by simp)
 ·rw [if_neg c3] at H
  exact absurd H (by simp)

end Go.Proofs.YtjeamaahhpbbkaaDoor.PAll
