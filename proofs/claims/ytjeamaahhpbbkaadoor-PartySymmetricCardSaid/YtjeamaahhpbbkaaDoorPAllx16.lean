-- PRINTED by a session's own changed print
import Derived.Test.YtjeamaahhpbbkaaDoorPAllx0
import Derived.Test.YtjeamaahhpbbkaaDoorPAllx3
namespace Go.Proofs.YtjeamaahhpbbkaaDoor.PAll
open Go.RowKit Go.Proofs.YtjeamaahhpbbkaaDoorW.PrintWords Go.Proofs.YtjeamaahhpbbkaaDoorW.PrintLast
set_option linter.unusedVariables false
set_option linter.unusedSimpArgs false

/-! ### insolvencylaw0_Parties: function 14 -/
mutual
def insolvencylaw0_Parties.l0 : Nat → Int → List (S65) → List (S66) → Int → List Int → Int → List Int → Option (List Int × (List (S36)) × (List (S38)))
 | 0, _, _, _, _, _, _, _ => none
 | k + 1, x1, x2, x3, x10, x11, x12, x558000 => if x12 < x10 then (if x12 = 0 then (insolvencylaw0_Parties.j1 k x1 x2 x3 x10 x11 x12 2 true x558000) else (if 0 ≤ (IntKind.u64.wrap (x12)) then (insolvencylaw0_Parties.j1 k x1 x2 x3 x10 x11 x12 2 ((Go.bits .and .i64 (shr .i64 (wrap64 (x1)) (IntKind.u64.wrap (x12))) 1) == 1) x558000) else (none))) else (insolvencylaw0_Parties.l1 k x3 x10 x11 x2 (x2.length : Int) 0 x558000 ([] : List (S36)))
def insolvencylaw0_Parties.j1 : Nat → Int → List (S65) → List (S66) → Int → List Int → Int → Int → Bool → List Int → Option (List Int × (List (S36)) × (List (S38)))
 | 0, _, _, _, _, _, _, _, _, _ => none
 | k + 1, x1, x2, x3, x10, x11, x12, x13, x45, x558000 => if x45 = true then (if x558000.length < 17592186044416 then (insolvencylaw0_Parties.l0 k x1 x2 x3 x10 x11 (wrap64 (x12 + 1)) (x558000 ++ [1])) else (none)) else (if x558000.length < 17592186044416 then (insolvencylaw0_Parties.l0 k x1 x2 x3 x10 x11 (wrap64 (x12 + 1)) (x558000 ++ [x13])) else (none))
def insolvencylaw0_Parties.l1 : Nat → List (S66) → Int → List Int → List (S65) → Int → Int → List Int → List (S36) → Option (List Int × (List (S36)) × (List (S38)))
 | 0, _, _, _, _, _, _, _, _ => none
 | k + 1, x3, x10, x11, x52, x53, x54, x558000, x558001 => if x54 < x53 then (if 0 ≤ x54 then (if x54 < (x52.length : Int) then (if x10 = 0 then (none) else (if (Int.tmod (wrap64 ((rd_T65 x52 x54).f0)) x10) = (Int.tmod (wrap64 ((rd_T65 x52 x54).f1)) x10) then (insolvencylaw0_Parties.j3 k x3 x10 x11 (Int.tmod (wrap64 ((rd_T65 x52 x54).f0)) x10) (Int.tmod (wrap64 ((rd_T65 x52 x54).f1)) x10) (wrap64 (1 + (wrap64 (Int.tmod ((rd_T65 x52 x54).f2) 7)))) x52 x53 x54 true x558000 x558001) else (if 0 ≤ (Int.tmod (wrap64 ((rd_T65 x52 x54).f1)) x10) then (if (Int.tmod (wrap64 ((rd_T65 x52 x54).f1)) x10) < (x558000.length : Int) then (if (rd x558000 (Int.tmod (wrap64 ((rd_T65 x52 x54).f1)) x10)) = 2 then (if (Int.tmod (wrap64 ((rd_T65 x52 x54).f1)) x10) < (x11.length : Int) then (if (wrap64 ((rd x11 (Int.tmod (wrap64 ((rd_T65 x52 x54).f1)) x10)) + (wrap64 (1 + (wrap64 (Int.tmod ((rd_T65 x52 x54).f2) 7)))))) > 10 then (insolvencylaw0_Parties.j3 k x3 x10 x11 (Int.tmod (wrap64 ((rd_T65 x52 x54).f0)) x10) (Int.tmod (wrap64 ((rd_T65 x52 x54).f1)) x10) (wrap64 (1 + (wrap64 (Int.tmod ((rd_T65 x52 x54).f2) 7)))) x52 x53 x54 true x558000 x558001) else (insolvencylaw0_Parties.j3 k x3 x10 x11 (Int.tmod (wrap64 ((rd_T65 x52 x54).f0)) x10) (Int.tmod (wrap64 ((rd_T65 x52 x54).f1)) x10) (wrap64 (1 + (wrap64 (Int.tmod ((rd_T65 x52 x54).f2) 7)))) x52 x53 x54 (decide ((x558001.length : Int) ≥ 20)) x558000 x558001)) else (none)) else (insolvencylaw0_Parties.j3 k x3 x10 x11 (Int.tmod (wrap64 ((rd_T65 x52 x54).f0)) x10) (Int.tmod (wrap64 ((rd_T65 x52 x54).f1)) x10) (wrap64 (1 + (wrap64 (Int.tmod ((rd_T65 x52 x54).f2) 7)))) x52 x53 x54 true x558000 x558001)) else (none)) else (none)))) else (none)) else (none)) else (insolvencylaw0_Parties.l2 k x10 x3 (x3.length : Int) 0 x558000 x558001 ([] : List (S38)))
def insolvencylaw0_Parties.j3 : Nat → List (S66) → Int → List Int → Int → Int → Int → List (S65) → Int → Int → Bool → List Int → List (S36) → Option (List Int × (List (S36)) × (List (S38)))
 | 0, _, _, _, _, _, _, _, _, _, _, _, _ => none
 | k + 1, x3, x10, x11, x16, x17, x18, x52, x53, x54, x98, x558000, x558001 => if x98 = true then (insolvencylaw0_Parties.l1 k x3 x10 x11 x52 x53 (wrap64 (x54 + 1)) x558000 x558001) else (if 0 ≤ x17 then (if x17 < (x11.length : Int) then ((insolvencylaw0_Ratio.f k x18 10).bind fun bt573 => (if x558001.length < 2513169434916 then (insolvencylaw0_Parties.l1 k x3 x10 (x11.set (x17 : Int).toNat (wrap64 ((rd x11 x17) + x18))) x52 x53 (wrap64 (x54 + 1)) x558000 (x558001 ++ [(⟨x16, x17, (⟨bt573.1, bt573.2.1, bt573.2.2⟩ : S33)⟩ : S36)])) else (none))) else (none)) else (none))
def insolvencylaw0_Parties.l2 : Nat → Int → List (S66) → Int → Int → List Int → List (S36) → List (S38) → Option (List Int × (List (S36)) × (List (S38)))
 | 0, _, _, _, _, _, _, _ => none
 | k + 1, x10, x117, x118, x119, x558000, x558001, x558002 => if x119 < x118 then (if 0 ≤ x119 then (if x119 < (x117.length : Int) then (if x10 = 0 then (none) else (if (Int.tmod (wrap64 ((rd_T66 x117 x119).f0)) x10) = (Int.tmod (wrap64 ((rd_T66 x117 x119).f1)) x10) then (insolvencylaw0_Parties.j5 k x10 (Int.tmod (wrap64 ((rd_T66 x117 x119).f0)) x10) (Int.tmod (wrap64 ((rd_T66 x117 x119).f1)) x10) x117 x118 x119 false x558000 x558001 x558002) else (insolvencylaw0_Parties.j5 k x10 (Int.tmod (wrap64 ((rd_T66 x117 x119).f0)) x10) (Int.tmod (wrap64 ((rd_T66 x117 x119).f1)) x10) x117 x118 x119 (decide ((x558002.length : Int) < 6)) x558000 x558001 x558002))) else (none)) else (none)) else (some (x558000, x558001, x558002))
def insolvencylaw0_Parties.j5 : Nat → Int → Int → Int → List (S66) → Int → Int → Bool → List Int → List (S36) → List (S38) → Option (List Int × (List (S36)) × (List (S38)))
 | 0, _, _, _, _, _, _, _, _, _, _ => none
 | k + 1, x10, x21, x22, x117, x118, x119, x141, x558000, x558001, x558002 => if x141 = true then (if x558002.length < 8796093022208 then (insolvencylaw0_Parties.l2 k x10 x117 x118 (wrap64 (x119 + 1)) x558000 x558001 (x558002 ++ [(⟨x21, x22⟩ : S38)])) else (none)) else (insolvencylaw0_Parties.l2 k x10 x117 x118 (wrap64 (x119 + 1)) x558000 x558001 x558002)
end
def insolvencylaw0_Parties.f (k : Nat) (a0 : Int) (a1 : Int) (l2 : List (S65)) (l3 : List (S66)) : Option (List Int × (List (S36)) × (List (S38))) := if 0 ≤ (wrap64 (2 + (wrap64 (Int.tmod a0 6)))) then (if (wrap64 (2 + (wrap64 (Int.tmod a0 6))) : Int).toNat ≤ 35184372088832 then (insolvencylaw0_Parties.l0 k a1 l2 l3 (wrap64 (2 + (wrap64 (Int.tmod a0 6)))) (List.replicate (wrap64 (2 + (wrap64 (Int.tmod a0 6))) : Int).toNat 0) 0 ([] : List Int)) else (none)) else (none)
def insolvencylaw0_Parties.T14 : Bool × List (List Nat × List Nat) := (true, [([], []), ([0], [0]), ([1], [1]), ([], []), ([2, 3], [2, 3]), ([], []), ([5], [5]), ([6], [6]), ([], []), ([7, 8], [7, 8]), ([], []), ([10], [10]), ([11], [11]), ([12], [12]), ([13], [13]), ([4, 0, 1, 2, 3, 4], [4]), ([9, 15, 0, 1, 2, 3, 4, 5, 6, 7, 8, 9, 15], [9]), ([14, 16, 0, 1, 2, 3, 4, 5, 6, 7, 8, 9, 10, 11, 12, 13, 14, 15, 16], [14])])
def insolvencylaw0_Parties.B14 : List Nat := [0, 1, 3, 0, 15, 0, 32, 96, 0, 480, 0, 1024, 3072, 7168, 15360, 31, 33791, 131071]
theorem insolvencylaw0_Parties.tab14 : rtab .any (opsOf Tryd.f14 14) = insolvencylaw0_Parties.T14 := by kernel_rfl
theorem insolvencylaw0_Parties.bits14 : waitsOk insolvencylaw0_Parties.T14.2 insolvencylaw0_Parties.B14 = true := by kernel_rfl
def insolvencylaw0_Parties.T17 : Bool × List (List Nat × List Nat) := (true, [([], []), ([0], [0]), ([], []), ([], []), ([], []), ([4], [4]), ([2, 3, 5], [2, 3, 5]), ([6], [6]), ([1, 7, 5], [1, 7]), ([0, 1, 2, 3, 4, 5, 6, 7, 8], []), ([9, 8, 8, 0, 1, 2, 3, 4, 5, 6, 7, 8], [8, 9])])
def insolvencylaw0_Parties.B17 : List Nat := [0, 1, 0, 0, 0, 16, 60, 124, 255, 511, 1023]
theorem insolvencylaw0_Parties.tab17 : rtab .any (opsOf Tryd.f14 17) = insolvencylaw0_Parties.T17 := by kernel_rfl
theorem insolvencylaw0_Parties.bits17 : waitsOk insolvencylaw0_Parties.T17.2 insolvencylaw0_Parties.B17 = true := by kernel_rfl
def insolvencylaw0_Parties.T22 : Bool × List (List Nat × List Nat) := (true, [([], []), ([0], [0]), ([1], [1]), ([], []), ([2, 3], [2, 3]), ([], []), ([5], [5]), ([6], [6]), ([], []), ([7, 8], [7, 8]), ([4, 0, 1, 2, 3, 4], [4]), ([9, 10, 0, 1, 2, 3, 4, 5, 6, 7, 8, 9, 10], [9])])
def insolvencylaw0_Parties.B22 : List Nat := [0, 1, 3, 0, 15, 0, 32, 96, 0, 480, 31, 2047]
theorem insolvencylaw0_Parties.tab22 : rtab .any (opsOf Tryd.f14 22) = insolvencylaw0_Parties.T22 := by kernel_rfl
theorem insolvencylaw0_Parties.bits22 : waitsOk insolvencylaw0_Parties.T22.2 insolvencylaw0_Parties.B22 = true := by kernel_rfl
set_option maxHeartbeats 8000000 in
set_option maxRecDepth 100000 in
theorem insolvencylaw0_Parties.calls (k : Nat) (a0 : Int) (a1 : Int) (A2 : Option Addr) (c2 : Nat) (l2 : List (S65)) (A3 : Option Addr) (c3 : Nat) (l3 : List (S66)) (r1 : List Int) (r2 : List (S36)) (r3 : List (S38)) (w : World) (hr2 : Kd.C k65 w A2 l2.length l2) (hc2 : l2.length ≤ c2) (hr3 : Kd.C k66 w A3 l3.length l3) (hc3 : l3.length ≤ c3) (h : insolvencylaw0_Parties.f k a0 a1 l2 l3 = some (r1, r2, r3)) :
  Calls Tryd.prog 14 #[.int .u8 a0, .int .u16 a1, .slice A2 l2.length c2, .slice A3 l3.length c3] w fun e w' => ∃ v0_ v1_ v2_ : Value, e = .returned (.agg #[v0_, v1_, v2_]) ∧ Kd.R (Kd.int .i64) 3 w' w.heap.size (fun _ => True) v0_ r1 ∧ Kd.R k36 36 w' w.heap.size (fun _ => True) v1_ r2 ∧ Kd.R k38 38 w' w.heap.size (fun _ => True) v2_ r3 ∧ Below w.heap.size w w' := by
 have hu26 := Tryd.underlying26
 have hu65 := Tryd.underlying65
 have hu36 := Tryd.underlying36
 have hu66 := Tryd.underlying66
 have hu38 := Tryd.underlying38
 have HR2 := Aside0.mk hr2
 have HC2 := Aside0.mk hc2
 clear hr2 hc2
 have HR3 := Aside0.mk hr3
 have HC3 := Aside0.mk hc3
 clear hr3 hc3
 have HB := aM (Below.refl w.heap.size w)
 have H : (if 0 ≤ (wrap64 (2 + (wrap64 (Int.tmod a0 6)))) then (if (wrap64 (2 + (wrap64 (Int.tmod a0 6))) : Int).toNat ≤ 35184372088832 then (insolvencylaw0_Parties.l0 k a1 l2 l3 (wrap64 (2 + (wrap64 (Int.tmod a0 6)))) (List.replicate (wrap64 (2 + (wrap64 (Int.tmod a0 6))) : Int).toNat 0) 0 ([] : List Int)) else (none)) else (none)) = some (r1, r2, r3) := h
 clear h
 obtain ⟨ji5, hji5⟩ : ∃ j_ : Int, (wrap64 (2 + (wrap64 (Int.tmod a0 6)))) = j_ := ⟨_, rfl⟩
 replace H : (if 0 ≤ (ji5) then (if (ji5 : Int).toNat ≤ 35184372088832 then (insolvencylaw0_Parties.l0 k a1 l2 l3 ji5 (List.replicate (ji5 : Int).toNat 0) 0 ([] : List Int)) else (none)) else (none)) = some (r1, r2, r3) := by first | (rw [hji5] at H; exact H) | (simp only [hji5] at H ⊢; exact H)
 have hji5w : (IntKind.i64.wrap (2 + (wrap64 (Int.tmod a0 6)))) = ji5 := (i64_w _).trans hji5
 by_cases c6 : 0 ≤ (ji5)
 ·rw [if_pos c6] at H
  have c6b0 := eq_true c6
  have c6b1 := decide_eq_true c6
  clear c6
  by_cases c7 : (ji5 : Int).toNat ≤ 35184372088832
  ·rw [if_pos c7] at H
   have c7b0 := eq_true c7
   have c7b1 := decide_eq_true c7
   clear c7
   obtain ⟨y558, hy558⟩ : ∃ y_ : List Int, y_ = (List.replicate (ji5 : Int).toNat 0) := ⟨_, rfl⟩
   replace H : (insolvencylaw0_Parties.l0 k a1 l2 l3 ji5 y558 0 ([] : List Int)) = some (r1, r2, r3) := by first | (rw [hy558]; with_reducible exact H) | (have H2_ := (Option.bind_some _ _).symm.trans H; rw [hy558]; with_reducible exact H2_) | (have H2_ := (Option.bind_some _ _).symm.trans H; with_reducible exact H2_) | with_reducible exact H | (rw [hy558]; exact H) | exact H
   have Ny558 := Aside0.mk hy558
   clear hy558
   have H' := Aside0.mk H
   clear H
   go_enter Tryd.func14, Tryd.ntmps14
   go_wp2_with (first | ((with_reducible refine gate_dst (N := 8) rfl ?_); refine box_event ?hg (N := 8) ?hd (cs := #[.slice none 0 0, .slice none 0 0, .slice none 0 0]) (t := 26) ?hr ?_; (case hd => rfl); (case hg => rfl); (case hr => first | (go_simp; done) | (go_simp; rfl)); intro gb556 hg w8 hbox hb; have n0_ := aM (below_step (bU HB.out) hb); have n1_ := aM (hbox); have n2_ := aM ((by rw [hg]; exact (below_size (bU HB.out)) : w.heap.size ≤ gb556)); have n3_ := aM ((by rw [hg]; exact (below_size (bU HB.out)) : w.heap.size ≤ gb556)); clear HB; have HB := n0_; have BK556 := n1_; have GW556 := n2_; have GE556 := n3_; clear n0_ n1_ n2_ n3_; clear hb hbox hg) | ((with_reducible refine gate_dst (N := 9) rfl ?_); refine box_event ?hg (N := 9) ?hd (cs := #[.slice none 0 0, .slice none 0 0, .slice none 0 0]) (t := 26) ?hr ?_; (case hd => rfl); (case hg => rfl); (case hr => first | (go_simp; done) | (go_simp; rfl)); intro gb557 hg w9 hbox hb; have n0_ := aM (blk_below (kU BK556.out) hb); have n1_ := aM (below_step (bU HB.out) hb); have n2_ := aM (hbox); have n3_ := aM ((by rw [hg]; exact (below_size (bU HB.out)) : w.heap.size ≤ gb557)); have n4_ := aM ((by rw [hg]; exact (below_size (bU HB.out)) : w.heap.size ≤ gb557)); have n5_ := aM ((by rw [hg]; exact Nat.ne_of_lt (blk_lt (kU BK556.out)) : gb556 ≠ gb557)); have n6_ := aM ((by rw [hg]; exact Nat.ne_of_gt (blk_lt (kU BK556.out)) : gb557 ≠ gb556)); clear BK556; clear HB; have BK556 := n0_; have HB := n1_; have BK557 := n2_; have GW557 := n3_; have GE557 := n4_; have NB556_557 := n5_; have NB557_556 := n6_; clear n0_ n1_ n2_ n3_ n4_ n5_ n6_; clear hb hbox hg; have hnb10 := NB557_556.out; have hnc10 := NB556_557.out; obtain ⟨hcz11_0, hcz11_1, hcz11_2, hfz11_0, hfz11_1, hfz11_2⟩ := cz3 BK557.out) | ((with_reducible refine gate_dst (N := 29) rfl ?_); refine Kd.R_make (Kd.int .i64) _ 3 rfl (N := 29) rfl 22 _ _ rfl ji5 rfl rfl Tryd.underlying22 (.int .i64 0) 8 info3 rfl (by decide) (by omega) 0 (ok := fun _ => True) (okp := fun _ => True) rfl (fun _ hk => hk) trivial (oD) (Nat.le_trans (Nat.mul_le_mul_right _ (oD : ji5.toNat ≤ 35184372088832)) (by omega)) (Below.refl _ _) (Nat.le_refl _) ?_; intro v559 w12 ho13 hb hg_ hnew_; clear hg_ hnew_; (first | rw [← Ny558.out] at ho13 | (simp only [Int.reduceToNat] at ho13; rw [← Ny558.out] at ho13)); have n0_ := aM (Kd.R_lower ho13 (below_size (bU HB.out))); have n1_ := aM (blk_below (g := gb556) (o := .cells #[.slice none 0 0, .slice none 0 0, .slice none 0 0] 26 (0, 0)) (kP BK556.out) hb); have n2_ := aM (blk_below (g := gb557) (o := .cells #[.slice none 0 0, .slice none 0 0, .slice none 0 0] 26 (0, 0)) (kP BK557.out) hb); have n3_ := aM (below_step (bU HB.out) hb); clear BK556; clear BK557; clear HB; have HO560 := n0_; have BK556 := n1_; have BK557 := n2_; have HB := n3_; clear n0_ n1_ n2_ n3_; clear hb ho13))
   go_loopg [12] k (fun kq v12 w' => ∃ (x12_1 : Int) (x558000_1 : List Int) (u558000 : Value), v12 = .int .i64 x12_1 ∧ Aside0 (insolvencylaw0_Parties.l0 kq a1 l2 l3 ji5 y558 x12_1 x558000_1 = some (r1, r2, r3)) ∧ Aside0 (kq ≤ k) ∧ Aside0 (Kd.R (Kd.int .i64) 3 w' w.heap.size (fun k_ => some k_ ≠ (u558000 : Value).ownBlock) v559 y558) ∧ Aside0 (Kd.R (Kd.int .i64) 3 w' w.heap.size (fun k_ => some k_ ≠ (v559 : Value).ownBlock) u558000 x558000_1) ∧ Aside0 (w'.heap[gb556]? = some (.cells #[(.slice none 0 0), (.slice none 0 0), (.slice none 0 0)] 26 (0, 0))) ∧ Aside0 (w'.heap[gb557]? = some (.cells #[u558000, (.slice none 0 0), (.slice none 0 0)] 26 (0, 0))) ∧ Aside0 (Below w.heap.size w w'))
   case atStart => exact ⟨(0), (([] : List Int)), (.slice none 0 0), (by first | rfl | (simp; done) | (simp [*]; done)), H', ⟨Nat.le_refl _⟩, ⟨Kd.R_up (Kd.R_mono HO560.out (fun _ hk => (by simp [Value.ownBlock])))⟩, ⟨by first | exact Kd.R_nil _ _ _ _ _ | exact Kd.N_nil _ _ _ _ _ | exact Kd.V_nil _ _ _ _ _ | exact Kd.Q_nil _ _ _ _ _ | exact Kd.S_nil _ _ _ _ _⟩, ⟨kU BK556.out⟩, ⟨kU BK557.out⟩, ⟨bU HB.out⟩⟩
   case round =>
    clear H'
    (try clear c1); (try clear c2); (try clear p2); (try clear c3); (try clear c6); (try clear c6b0); (try clear c6b1); (try clear p6); (try clear c7); (try clear c7b0); (try clear c7b1); (try clear c10); (try clear hcz11_0 hcz11_1 hcz11_2); (try clear hfz11_0 hfz11_1 hfz11_2)
    obtain ⟨x12_1, x558000_1, u558000, rfl, HA, HK1, HO_11, HO_558000, BK556, BK557, HB⟩ := hrel
    cases gk with
    | zero => exact absurd HA.out (by simp [insolvencylaw0_Parties.l0])
    | succ k1 =>
     have H := HA.out
     clear HA
     simp only [insolvencylaw0_Parties.l0] at H
     by_cases c14 : x12_1 < ji5
     ·rw [if_pos c14] at H
      have c14b0 := decide_eq_true c14
      clear c14
      have HC15 := Aside0.mk H
      clear H
      go_upto_region 8 with (fail)
      go_cut [45] (fun v45 wc => ∃ (kq : Nat) (x45_14 : Bool), v45 = .bool x45_14 ∧ Aside0 (insolvencylaw0_Parties.j1 kq a1 l2 l3 ji5 y558 x12_1 2 x45_14 x558000_1 = some (r1, r2, r3)) ∧ Aside0 (kq ≤ k1) ∧ Aside0 (Kd.R (Kd.int .i64) 3 wc w.heap.size (fun k_ => some k_ ≠ (u558000 : Value).ownBlock) v559 y558) ∧ Aside0 (Kd.R (Kd.int .i64) 3 wc w.heap.size (fun k_ => some k_ ≠ (v559 : Value).ownBlock) u558000 x558000_1) ∧ Aside0 (wc.heap[gb556]? = some (.cells #[(.slice none 0 0), (.slice none 0 0), (.slice none 0 0)] 26 (0, 0))) ∧ Aside0 (wc.heap[gb557]? = some (.cells #[u558000, (.slice none 0 0), (.slice none 0 0)] 26 (0, 0))) ∧ Aside0 (Below w.heap.size w wc))
      case first =>
       have H := HC15.out
       clear HC15
       by_cases c16 : x12_1 = 0
       ·rw [if_pos c16] at H
        have c16b0 : (x12_1 == 0) = true := beq_iff_eq.mpr c16
        have c16b1 : (x12_1 != 0) = false := bne_eq_false_iff_eq.mpr c16
        clear c16
        (first | rw [c16b0] | (simp only [i64_w, i32_w]; rw [c16b0]) | rw [c16b1] | skip)
        have H' := Aside0.mk H
        clear H
        go_wp2
        go_meet
        case rel => exact ⟨_, (true), (by first | rfl | (simp; done) | (simp [*]; done)), H', ⟨by have := HK1.out; first | omega | exact Nat.le_refl _⟩, ⟨Kd.R_up HO_11.out⟩, ⟨Kd.R_up HO_558000.out⟩, ⟨kU BK556.out⟩, ⟨kU BK557.out⟩, ⟨bU HB.out⟩⟩
       ·rw [if_neg c16] at H
        have c16b0 : (x12_1 == 0) = false := beq_eq_false_iff_ne.mpr c16
        have c16b1 : (x12_1 != 0) = true := bne_iff_ne.mpr c16
        (first | rw [c16b0] | (simp only [i64_w, i32_w]; rw [c16b0]) | rw [c16b1] | skip)
        obtain ⟨ji17, hji17⟩ : ∃ j_ : Int, (IntKind.u64.wrap (x12_1)) = j_ := ⟨_, rfl⟩
        replace H : (if 0 ≤ (ji17) then (insolvencylaw0_Parties.j1 k1 a1 l2 l3 ji5 y558 x12_1 2 ((Go.bits .and .i64 (shr .i64 (wrap64 (a1)) (ji17)) 1) == 1) x558000_1) else (none)) = some (r1, r2, r3) := by first | (rw [hji17] at H; exact H) | (simp only [hji17] at H ⊢; exact H)
        by_cases c18 : 0 ≤ (ji17)
        ·rw [if_pos c18] at H
         have c18b0 := eq_true c18
         have c18b1 := decide_eq_true c18
         clear c18
         obtain ⟨ji19, hji19⟩ : ∃ j_ : Int, (shr .i64 (wrap64 (a1)) (ji17)) = j_ := ⟨_, rfl⟩
         replace H : (insolvencylaw0_Parties.j1 k1 a1 l2 l3 ji5 y558 x12_1 2 ((Go.bits .and .i64 (ji19) 1) == 1) x558000_1) = some (r1, r2, r3) := by first | (rw [hji19] at H; exact H) | (simp only [hji19] at H ⊢; exact H)
         have hji19_ : ((wrap64 (a1)) / 2 ^ min (ji17).toNat 64) = ji19 := hji19
         have hji19z : (ji17) ≤ 64 → ((wrap64 (a1)) / 2 ^ (ji17).toNat) = ji19 := shr_small hji19
         have H' := Aside0.mk H
         clear H
         go_wp2
         go_meet
         case rel => exact ⟨_, (((Go.bits .and .i64 (ji19) 1) == 1)), (by first | rfl | (simp; done) | (simp only [← hji19] <;> (first | rfl | simp)) | (simp [*]; done)), H', ⟨by have := HK1.out; first | omega | exact Nat.le_refl _⟩, ⟨Kd.R_up HO_11.out⟩, ⟨Kd.R_up HO_558000.out⟩, ⟨kU BK556.out⟩, ⟨kU BK557.out⟩, ⟨bU HB.out⟩⟩
        ·rw [if_neg c18] at H
         exact absurd H (by simp)
      case rest =>
       clear HC15
       (try clear c1); (try clear c2); (try clear p2); (try clear c3); (try clear c6); (try clear c6b0); (try clear c6b1); (try clear p6); (try clear c7); (try clear c7b0); (try clear c7b1); (try clear c10); (try clear c14); (try clear c14b0); (try clear c16); (try clear c16b0); (try clear c16b1); (try clear c18); (try clear c18b0); (try clear c18b1); (try clear hcz11_0 hcz11_1 hcz11_2); (try clear hfz11_0 hfz11_1 hfz11_2); (try clear p2); (try clear p6)
       obtain ⟨kq, x45_14, rfl, HA, HJ14, HO_11, HO_558000, BK556, BK557, HB⟩ := hcut
       cases kq with
       | zero => exact absurd HA.out (by simp [insolvencylaw0_Parties.j1])
       | succ kj14 =>
        have H := HA.out
        clear HA
        simp only [insolvencylaw0_Parties.j1] at H
        by_cases c20 : x45_14 = true
        ·subst c20
         have H1 : (if x558000_1.length < 17592186044416 then (insolvencylaw0_Parties.l0 kj14 a1 l2 l3 ji5 y558 (wrap64 (x12_1 + 1)) (x558000_1 ++ [1])) else (none)) = some (r1, r2, r3) := by rw [if_pos rfl] at H; exact H
         clear H
         have H := H1
         clear H1
         by_cases c21 : x558000_1.length < 17592186044416
         ·rw [if_pos c21] at H
          have LMc21 := Aside0.mk c21
          clear c21
          obtain ⟨y561, hy561⟩ : ∃ y_ : List Int, y_ = (x558000_1 ++ [1]) := ⟨_, rfl⟩
          replace H : (insolvencylaw0_Parties.l0 kj14 a1 l2 l3 ji5 y558 (wrap64 (x12_1 + 1)) y561) = some (r1, r2, r3) := by first | (rw [hy561]; with_reducible exact H) | (have H2_ := (Option.bind_some _ _).symm.trans H; rw [hy561]; with_reducible exact H2_) | (have H2_ := (Option.bind_some _ _).symm.trans H; with_reducible exact H2_) | with_reducible exact H | (rw [hy561]; exact H) | exact H
          have Ny561 := Aside0.mk hy561
          clear hy561
          have H' := Aside0.mk H
          clear H
          have hnb22 := NB557_556.out
          have hnc22 := NB556_557.out
          obtain ⟨hcz23_0, hcz23_1, hcz23_2, hfz23_0, hfz23_1, hfz23_2⟩ := cz3 BK557.out
          go_wp2_with (first | ((with_reducible refine gate_builtin (b := .append) (xs := #[.tmp 47, .tmp 49]) rfl ?_); at_builtin; refine Kd.R_append (Kd.int .i64) (w0 := w) w.heap.size rfl (.tmp 47) (.tmp 49) 22 3 (.int .i64 0) 8 rfl Tryd.underlying22 info3 rfl (by decide) (by omega) u558000 x558000_1 1 [.int .i64 1] (fun k_ => some k_ ≠ (v559 : Value).ownBlock) (fun _ => False) rfl rfl ?aP (fun _ hk => hk.elim) ?aF ?aO ?aB ?aS ?aL ?_; (case aP => exact rfl); (case aB => exact (bU HB.out)); (case aF => exact (fun k_ hk => Kd.fresh' (Kd.R_lt (Kd.R_up HO_11.out)) k_ hk)); (case aO => exact (Kd.R_up HO_558000.out)); (case aS => exact (below_size (bU HB.out))); (case aL => have := LMc21.out; omega); intro v562 w24 ho hb hg hat; rw [← Ny561.out] at ho; have n0_ := aM (Kd.R_after (ok := (fun _ => True)) (Kd.R_up (Kd.R_mono HO_11.out (fun _ hk => ⟨trivial, hk⟩))) hg hat); have n1_ := aM (blk_grown (kU BK556.out) hg (Kd.R_ne HO_558000.out BK556.out (by decide))); have n2_ := aM (blk_grown (kU BK557.out) hg (Kd.R_ne HO_558000.out BK557.out (by decide))); have n3_ := aM (hb); have n4_ := aM (ho); clear HO_11; clear BK556; clear BK557; clear HB; clear HO_558000; have HO_11 := n0_; have BK556 := n1_; have BK557 := n2_; have HB := n3_; have HO563 := n4_; clear n0_ n1_ n2_ n3_ n4_; clear ho hb hg hat; obtain ⟨Ao25, co25, eo25⟩ := Kd.R_slice HO563.out; subst eo25; obtain ⟨hcz26_0, hcz26_1, hcz26_2, hfz26_0, hfz26_1, hfz26_2⟩ := cz3 BK557.out))
          go_roundg kj14
          case measure => have := HK1.out; have := HJ14.out; omega
          case rel => exact ⟨(wrap64 (x12_1 + 1)), (y561), (.slice Ao25 y561.length co25), (by first | rfl | (simp; done) | (simp [*]; done)), H', ⟨by have := HK1.out; have := HJ14.out; omega⟩, ⟨Kd.R_up (Kd.R_mono (Kd.R_far (p := ⟨gb557, 0, none⟩) (Kd.R_types HO_11.out BK557.out (by decide)) (fun _ hk => hk.2) (.slice Ao25 y561.length co25)) (fun _ hk => hk.1.2))⟩, ⟨Kd.R_up (Kd.R_mono (Kd.R_far (p := ⟨gb557, 0, none⟩) (Kd.R_types HO563.out BK557.out (by decide)) (fun _ hk => hk.2) (.slice Ao25 y561.length co25)) (fun _ hk => hk.1))⟩, ⟨kP BK556.out⟩, ⟨kP BK557.out⟩, ⟨bU HB.out⟩⟩
         ·rw [if_neg c21] at H
          exact absurd H (by simp)
        ·replace c20 := Bool.eq_false_iff.mpr c20
         subst c20
         have H1 : (if x558000_1.length < 17592186044416 then (insolvencylaw0_Parties.l0 kj14 a1 l2 l3 ji5 y558 (wrap64 (x12_1 + 1)) (x558000_1 ++ [2])) else (none)) = some (r1, r2, r3) := by rw [if_neg (show ¬ (false = true) by decide)] at H; exact H
         clear H
         have H := H1
         clear H1
         by_cases c27 : x558000_1.length < 17592186044416
         ·rw [if_pos c27] at H
          have LMc27 := Aside0.mk c27
          clear c27
          obtain ⟨y564, hy564⟩ : ∃ y_ : List Int, y_ = (x558000_1 ++ [2]) := ⟨_, rfl⟩
          replace H : (insolvencylaw0_Parties.l0 kj14 a1 l2 l3 ji5 y558 (wrap64 (x12_1 + 1)) y564) = some (r1, r2, r3) := by first | (rw [hy564]; with_reducible exact H) | (have H2_ := (Option.bind_some _ _).symm.trans H; rw [hy564]; with_reducible exact H2_) | (have H2_ := (Option.bind_some _ _).symm.trans H; with_reducible exact H2_) | with_reducible exact H | (rw [hy564]; exact H) | exact H
          have Ny564 := Aside0.mk hy564
          clear hy564
          have H' := Aside0.mk H
          clear H
          have hnb28 := NB557_556.out
          have hnc28 := NB556_557.out
          obtain ⟨hcz29_0, hcz29_1, hcz29_2, hfz29_0, hfz29_1, hfz29_2⟩ := cz3 BK557.out
          go_wp2_with (first | ((with_reducible refine gate_builtin (b := .append) (xs := #[.tmp 47, .tmp 49]) rfl ?_); at_builtin; refine Kd.R_append (Kd.int .i64) (w0 := w) w.heap.size rfl (.tmp 47) (.tmp 49) 22 3 (.int .i64 0) 8 rfl Tryd.underlying22 info3 rfl (by decide) (by omega) u558000 x558000_1 2 [.int .i64 2] (fun k_ => some k_ ≠ (v559 : Value).ownBlock) (fun _ => False) rfl rfl ?aP (fun _ hk => hk.elim) ?aF ?aO ?aB ?aS ?aL ?_; (case aP => exact rfl); (case aB => exact (bU HB.out)); (case aF => exact (fun k_ hk => Kd.fresh' (Kd.R_lt (Kd.R_up HO_11.out)) k_ hk)); (case aO => exact (Kd.R_up HO_558000.out)); (case aS => exact (below_size (bU HB.out))); (case aL => have := LMc27.out; omega); intro v565 w30 ho hb hg hat; rw [← Ny564.out] at ho; have n0_ := aM (Kd.R_after (ok := (fun _ => True)) (Kd.R_up (Kd.R_mono HO_11.out (fun _ hk => ⟨trivial, hk⟩))) hg hat); have n1_ := aM (blk_grown (kU BK556.out) hg (Kd.R_ne HO_558000.out BK556.out (by decide))); have n2_ := aM (blk_grown (kU BK557.out) hg (Kd.R_ne HO_558000.out BK557.out (by decide))); have n3_ := aM (hb); have n4_ := aM (ho); clear HO_11; clear BK556; clear BK557; clear HB; clear HO_558000; have HO_11 := n0_; have BK556 := n1_; have BK557 := n2_; have HB := n3_; have HO566 := n4_; clear n0_ n1_ n2_ n3_ n4_; clear ho hb hg hat; obtain ⟨Ao31, co31, eo31⟩ := Kd.R_slice HO566.out; subst eo31; obtain ⟨hcz32_0, hcz32_1, hcz32_2, hfz32_0, hfz32_1, hfz32_2⟩ := cz3 BK557.out))
          go_roundg kj14
          case measure => have := HK1.out; have := HJ14.out; omega
          case rel => exact ⟨(wrap64 (x12_1 + 1)), (y564), (.slice Ao31 y564.length co31), (by first | rfl | (simp; done) | (simp [*]; done)), H', ⟨by have := HK1.out; have := HJ14.out; omega⟩, ⟨Kd.R_up (Kd.R_mono (Kd.R_far (p := ⟨gb557, 0, none⟩) (Kd.R_types HO_11.out BK557.out (by decide)) (fun _ hk => hk.2) (.slice Ao31 y564.length co31)) (fun _ hk => hk.1.2))⟩, ⟨Kd.R_up (Kd.R_mono (Kd.R_far (p := ⟨gb557, 0, none⟩) (Kd.R_types HO566.out BK557.out (by decide)) (fun _ hk => hk.2) (.slice Ao31 y564.length co31)) (fun _ hk => hk.1))⟩, ⟨kP BK556.out⟩, ⟨kP BK557.out⟩, ⟨bU HB.out⟩⟩
         ·rw [if_neg c27] at H
          exact absurd H (by simp)
     ·rw [if_neg c14] at H
      have c14b0 := decide_eq_false c14
      clear c14
      have H' := Aside0.mk H
      clear H
      go_wp2
      go_loopg [54] k1 (fun kq v54 w' => ∃ (x11_2 : List Int) (x54_2 : Int) (x558001_2 : List (S36)) (u558001 : Value), v54 = .int .i64 x54_2 ∧ Aside0 (insolvencylaw0_Parties.l1 kq l3 ji5 x11_2 l2 (l2.length : Int) x54_2 x558000_1 x558001_2 = some (r1, r2, r3)) ∧ Aside0 (kq ≤ k1) ∧ Aside0 (Kd.R (Kd.int .i64) 3 w' w.heap.size (fun k_ => some k_ ≠ (u558000 : Value).ownBlock) v559 x11_2) ∧ Aside0 (Kd.R (Kd.int .i64) 3 w' w.heap.size (fun k_ => some k_ ≠ (v559 : Value).ownBlock) u558000 x558000_1) ∧ Aside0 (Kd.R k36 36 w' w.heap.size (fun _ => True) u558001 x558001_2) ∧ Aside0 (w'.heap[gb556]? = some (.cells #[(.slice none 0 0), (.slice none 0 0), (.slice none 0 0)] 26 (0, 0))) ∧ Aside0 (w'.heap[gb557]? = some (.cells #[u558000, u558001, (.slice none 0 0)] 26 (0, 0))) ∧ Aside0 (Below w.heap.size w w'))
      case atStart => exact ⟨(y558), (0), (([] : List (S36))), (.slice none 0 0), (by first | rfl | (simp; done) | (simp [*]; done)), H', ⟨Nat.le_refl _⟩, ⟨Kd.R_up HO_11.out⟩, ⟨Kd.R_up HO_558000.out⟩, ⟨by first | exact Kd.R_nil _ _ _ _ _ | exact Kd.N_nil _ _ _ _ _ | exact Kd.V_nil _ _ _ _ _ | exact Kd.Q_nil _ _ _ _ _ | exact Kd.S_nil _ _ _ _ _⟩, ⟨kU BK556.out⟩, ⟨kU BK557.out⟩, ⟨bU HB.out⟩⟩
      case round =>
       clear H'
       (try clear c1); (try clear c2); (try clear p2); (try clear c3); (try clear c6); (try clear c6b0); (try clear c6b1); (try clear p6); (try clear c7); (try clear c7b0); (try clear c7b1); (try clear c10); (try clear c14); (try clear c14b0); (try clear c16); (try clear c16b0); (try clear c16b1); (try clear c18); (try clear c18b0); (try clear c18b1); (try clear c20); (try clear c21); (try clear c22); (try clear c27); (try clear c28); (try clear hcz11_0 hcz11_1 hcz11_2); (try clear hcz23_0 hcz23_1 hcz23_2); (try clear hcz26_0 hcz26_1 hcz26_2); (try clear hcz29_0 hcz29_1 hcz29_2); (try clear hcz32_0 hcz32_1 hcz32_2); (try clear hfz11_0 hfz11_1 hfz11_2); (try clear hfz23_0 hfz23_1 hfz23_2); (try clear hfz26_0 hfz26_1 hfz26_2); (try clear hfz29_0 hfz29_1 hfz29_2); (try clear hfz32_0 hfz32_1 hfz32_2); (try clear p2); (try clear p6)
       obtain ⟨x11_2, x54_2, x558001_2, u558001, rfl, HA, HK2, HO_11, HO_558000, HO_558001, BK556, BK557, HB⟩ := hrel
       cases gk with
       | zero => exact absurd HA.out (by simp [insolvencylaw0_Parties.l1])
       | succ k2 =>
        have H := HA.out
        clear HA
        simp only [insolvencylaw0_Parties.l1] at H
        by_cases c33 : x54_2 < (l2.length : Int)
        ·rw [if_pos c33] at H
         have c33b0 := decide_eq_true c33
         clear c33
         by_cases c34 : 0 ≤ x54_2
         ·rw [if_pos c34] at H
          have c34b0 := decide_eq_true c34
          clear c34
          by_cases c35 : x54_2 < (l2.length : Int)
          ·rw [if_pos c35] at H
           have c35b0 := decide_eq_true c35
           clear c35
           by_cases c36 : ji5 = 0
           ·rw [if_pos c36] at H
            exact absurd H (by simp)
           ·rw [if_neg c36] at H
            have c36b0 : (ji5 == 0) = false := beq_eq_false_iff_ne.mpr c36
            have c36b1 : (ji5 != 0) = true := bne_iff_ne.mpr c36
            have HC37 := Aside0.mk H
            clear H
            have p567 : 0 ≤ (x54_2 : Int) := oD
            have q567 : x54_2 < (l2.length : Int) := oD
            obtain ⟨ad567, e567, hx567_0, hx567_1, hx567_2⟩ := at_T65 HR2.out x54_2 p567 q567
            cases e567
            replace hx567_0 := (HB.out.cell (World.block_lt_of_cell? w _ hx567_0)).trans hx567_0
            replace hx567_1 := (HB.out.cell (World.block_lt_of_cell? w _ hx567_1)).trans hx567_1
            replace hx567_2 := (HB.out.cell (World.block_lt_of_cell? w _ hx567_2)).trans hx567_2
            replace p567 := eq_true p567
            replace q567 := eq_true q567
            try go_wp2_with (first | ((with_reducible refine gate_dst (N := 15) rfl ?_); refine box_event ?hg (N := 15) ?hd (cs := #[.int .u16 0, .int .u16 0, .int .u16 0]) (t := 65) ?hr ?_; (case hd => rfl); (case hg => rfl); (case hr => first | (go_simp; done) | (go_simp; rfl)); intro gb568 hg w38 hbox hb; have n0_ := aM (Kd.R_below (Kd.R_up HO_11.out) hb); have n1_ := aM (Kd.R_below (Kd.R_up HO_558000.out) hb); have n2_ := aM (Kd.R_below (Kd.R_up HO_558001.out) hb); have n3_ := aM (blk_below (kU BK556.out) hb); have n4_ := aM (blk_below (kU BK557.out) hb); have n5_ := aM (below_step (bU HB.out) hb); have n6_ := aM (hbox); have n7_ := aM ((by rw [hg]; exact (below_size (bU HB.out)) : w.heap.size ≤ gb568)); have n8_ := aM ((by rw [hg]; exact (below_size (bU HB.out)) : w.heap.size ≤ gb568)); have n9_ := aM ((by rw [hg]; exact Nat.ne_of_lt (blk_lt (kU BK556.out)) : gb556 ≠ gb568)); have n10_ := aM ((by rw [hg]; exact Nat.ne_of_gt (blk_lt (kU BK556.out)) : gb568 ≠ gb556)); have n11_ := aM ((by rw [hg]; exact Nat.ne_of_lt (blk_lt (kU BK557.out)) : gb557 ≠ gb568)); have n12_ := aM ((by rw [hg]; exact Nat.ne_of_gt (blk_lt (kU BK557.out)) : gb568 ≠ gb557)); clear HO_11; clear HO_558000; clear HO_558001; clear BK556; clear BK557; clear HB; have HO_11 := n0_; have HO_558000 := n1_; have HO_558001 := n2_; have BK556 := n3_; have BK557 := n4_; have HB := n5_; have BK568 := n6_; have GW568 := n7_; have GE568 := n8_; have NB556_568 := n9_; have NB568_556 := n10_; have NB557_568 := n11_; have NB568_557 := n12_; clear n0_ n1_ n2_ n3_ n4_ n5_ n6_ n7_ n8_ n9_ n10_ n11_ n12_; clear hb hbox hg; have hnb39 := NB568_556.out; have hnc39 := NB556_568.out; have hnb40 := NB568_557.out; have hnc40 := NB557_568.out; obtain ⟨hcz41_0, hcz41_1, hcz41_2, hfz41_0, hfz41_1, hfz41_2⟩ := cz3 BK568.out))
            have n0_ : Aside0 (Kd.R (Kd.int .i64) 3 (((w38.setCell ⟨gb568, 0, none⟩ (.int .u16 ((rd_T65 l2 x54_2).f0))).setCell ⟨gb568, 1, none⟩ (.int .u16 ((rd_T65 l2 x54_2).f1))).setCell ⟨gb568, 2, none⟩ (.int .u16 ((rd_T65 l2 x54_2).f2))) w.heap.size (fun k_ => some k_ ≠ (u558000 : Value).ownBlock) v559 x11_2) := ⟨Kd.R_up (Kd.R_mono (Kd.R_far (p := ⟨gb568, 2, none⟩) (Kd.R_far (p := ⟨gb568, 1, none⟩) (Kd.R_far (p := ⟨gb568, 0, none⟩) (Kd.R_types HO_11.out BK568.out (by decide)) (fun _ hk => hk.2) (.int .u16 ((rd_T65 l2 x54_2).f0))) (fun _ hk => hk.2) (.int .u16 ((rd_T65 l2 x54_2).f1))) (fun _ hk => hk.2) (.int .u16 ((rd_T65 l2 x54_2).f2))) (fun _ hk => hk.1))⟩
            have n1_ : Aside0 (Kd.R (Kd.int .i64) 3 (((w38.setCell ⟨gb568, 0, none⟩ (.int .u16 ((rd_T65 l2 x54_2).f0))).setCell ⟨gb568, 1, none⟩ (.int .u16 ((rd_T65 l2 x54_2).f1))).setCell ⟨gb568, 2, none⟩ (.int .u16 ((rd_T65 l2 x54_2).f2))) w.heap.size (fun k_ => some k_ ≠ (v559 : Value).ownBlock) u558000 x558000_1) := ⟨Kd.R_up (Kd.R_mono (Kd.R_far (p := ⟨gb568, 2, none⟩) (Kd.R_far (p := ⟨gb568, 1, none⟩) (Kd.R_far (p := ⟨gb568, 0, none⟩) (Kd.R_types HO_558000.out BK568.out (by decide)) (fun _ hk => hk.2) (.int .u16 ((rd_T65 l2 x54_2).f0))) (fun _ hk => hk.2) (.int .u16 ((rd_T65 l2 x54_2).f1))) (fun _ hk => hk.2) (.int .u16 ((rd_T65 l2 x54_2).f2))) (fun _ hk => hk.1))⟩
            have n2_ : Aside0 (Kd.R k36 36 (((w38.setCell ⟨gb568, 0, none⟩ (.int .u16 ((rd_T65 l2 x54_2).f0))).setCell ⟨gb568, 1, none⟩ (.int .u16 ((rd_T65 l2 x54_2).f1))).setCell ⟨gb568, 2, none⟩ (.int .u16 ((rd_T65 l2 x54_2).f2))) w.heap.size (fun _ => True) u558001 x558001_2) := ⟨Kd.R_up (Kd.R_mono (Kd.R_far (p := ⟨gb568, 2, none⟩) (Kd.R_far (p := ⟨gb568, 1, none⟩) (Kd.R_far (p := ⟨gb568, 0, none⟩) (Kd.R_types HO_558001.out BK568.out (by decide)) (fun _ hk => hk.2) (.int .u16 ((rd_T65 l2 x54_2).f0))) (fun _ hk => hk.2) (.int .u16 ((rd_T65 l2 x54_2).f1))) (fun _ hk => hk.2) (.int .u16 ((rd_T65 l2 x54_2).f2))) (fun _ hk => trivial))⟩
            have n3_ : Aside0 ((((w38.setCell ⟨gb568, 0, none⟩ (.int .u16 ((rd_T65 l2 x54_2).f0))).setCell ⟨gb568, 1, none⟩ (.int .u16 ((rd_T65 l2 x54_2).f1))).setCell ⟨gb568, 2, none⟩ (.int .u16 ((rd_T65 l2 x54_2).f2))).heap[gb556]? = some (.cells #[.slice none 0 0, .slice none 0 0, .slice none 0 0] 26 (0, 0))) := ⟨kP BK556.out⟩
            have n4_ : Aside0 ((((w38.setCell ⟨gb568, 0, none⟩ (.int .u16 ((rd_T65 l2 x54_2).f0))).setCell ⟨gb568, 1, none⟩ (.int .u16 ((rd_T65 l2 x54_2).f1))).setCell ⟨gb568, 2, none⟩ (.int .u16 ((rd_T65 l2 x54_2).f2))).heap[gb557]? = some (.cells #[u558000, u558001, .slice none 0 0] 26 (0, 0))) := ⟨kP BK557.out⟩
            have n5_ : Aside0 ((((w38.setCell ⟨gb568, 0, none⟩ (.int .u16 ((rd_T65 l2 x54_2).f0))).setCell ⟨gb568, 1, none⟩ (.int .u16 ((rd_T65 l2 x54_2).f1))).setCell ⟨gb568, 2, none⟩ (.int .u16 ((rd_T65 l2 x54_2).f2))).heap[gb568]? = some (.cells #[.int .u16 ((rd_T65 l2 x54_2).f0), .int .u16 ((rd_T65 l2 x54_2).f1), .int .u16 ((rd_T65 l2 x54_2).f2)] 65 (0, 0))) := ⟨kP BK568.out⟩
            have n6_ : Aside0 (Below w.heap.size w (((w38.setCell ⟨gb568, 0, none⟩ (.int .u16 ((rd_T65 l2 x54_2).f0))).setCell ⟨gb568, 1, none⟩ (.int .u16 ((rd_T65 l2 x54_2).f1))).setCell ⟨gb568, 2, none⟩ (.int .u16 ((rd_T65 l2 x54_2).f2)))) := ⟨bU HB.out⟩
            (try clear HO_11)
            (try clear HO_558000)
            (try clear HO_558001)
            (try clear BK556)
            (try clear BK557)
            (try clear BK568)
            (try clear HB)
            generalize (((w38.setCell ⟨gb568, 0, none⟩ (.int .u16 ((rd_T65 l2 x54_2).f0))).setCell ⟨gb568, 1, none⟩ (.int .u16 ((rd_T65 l2 x54_2).f1))).setCell ⟨gb568, 2, none⟩ (.int .u16 ((rd_T65 l2 x54_2).f2))) = w42 at n0_ n1_ n2_ n3_ n4_ n5_ n6_ ⊢
            have HO_11 := n0_
            have HO_558000 := n1_
            have HO_558001 := n2_
            have BK556 := n3_
            have BK557 := n4_
            have BK568 := n5_
            have HB := n6_
            clear n0_ n1_ n2_ n3_ n4_ n5_ n6_
            have n0_ := aM (Kd.R_drew HO_11.out)
            have n1_ := aM (Kd.R_drew HO_558000.out)
            have n2_ := aM (Kd.R_drew HO_558001.out)
            have n3_ := aM (blk_drew BK556.out)
            have n4_ := aM (blk_drew BK557.out)
            have n5_ := aM (blk_drew BK568.out)
            have n6_ := aM (below_drew1 HB.out)
            clear HO_11
            clear HO_558000
            clear HO_558001
            clear BK556
            clear BK557
            clear BK568
            clear HB
            have HO_11 := n0_
            have HO_558000 := n1_
            have HO_558001 := n2_
            have BK556 := n3_
            have BK557 := n4_
            have BK568 := n5_
            have HB := n6_
            clear n0_ n1_ n2_ n3_ n4_ n5_ n6_
            refine start_ (n := 18) (S := fun w' => w'.cell? ⟨gb568, 0, none⟩ = some (.int .u16 ((rd_T65 l2 x54_2).f0)) ∧ w'.cell? ⟨gb568, 1, none⟩ = some (.int .u16 ((rd_T65 l2 x54_2).f1)) ∧ w'.cell? ⟨gb568, 2, none⟩ = some (.int .u16 ((rd_T65 l2 x54_2).f2))) (ds := []) #[false, false, false, false, false, false, false, false, false, false, false, false, false, false, false, false, false, false] (by kernel_rfl) rfl rfl ⟨(blk_cell BK568.out 0).trans rfl, (blk_cell BK568.out 1).trans rfl, (blk_cell BK568.out 2).trans rfl⟩ (fun hHeld => ?_); refine with_tabW insolvencylaw0_Parties.tab14 insolvencylaw0_Parties.bits14 (fun HT_ HW_ => ?_)
            generalize w42.drew = w43 at HO_11 HO_558000 HO_558001 BK556 BK557 BK568 HB hHeld ⊢
            refine pureq (i := 0) (N := some 58) HT_.out rfl rfl ?_
            refine pureq (i := 3) (N := some 61) HT_.out rfl rfl ?_
            refine pureq (i := 5) (N := some 63) HT_.out rfl rfl ?_
            refine pureq (i := 8) (N := some 66) HT_.out rfl rfl ?_
            refine pureq (i := 10) (N := some 68) HT_.out rfl rfl ?_
            refine takeq (i := 1) (N := some 59) HT_.out HW_.out hHeld rfl rfl ?_
            refine pureq (i := 2) (N := some 60) HT_.out rfl rfl ?_
            refine pureq (i := 4) (N := some 62) HT_.out rfl rfl ?_
            refine pureq (i := 15) (N := some 16) HT_.out rfl rfl ?_
            refine takeq (i := 6) (N := some 64) HT_.out HW_.out hHeld rfl rfl ?_
            refine pureq (i := 7) (N := some 65) HT_.out rfl rfl ?_
            refine pureq (i := 9) (N := some 67) HT_.out rfl rfl ?_
            refine pureq (i := 16) (N := some 17) HT_.out rfl rfl ?_
            refine takeq (i := 11) (N := some 69) HT_.out HW_.out hHeld rfl rfl ?_
            refine pureq (i := 12) (N := some 70) HT_.out rfl rfl ?_
            refine pureq (i := 13) (N := some 71) HT_.out rfl rfl ?_
            refine pureq (i := 14) (N := some 72) HT_.out rfl rfl ?_
            refine pureq (i := 17) (N := some 18) HT_.out rfl rfl ?_
            refine done_ (done_of HT_.out (by kernel_rfl)) ?_
            go_upto_region 15 with (fail)
            go_cut [98] (fun v98 wc => ∃ (kq : Nat) (x98_36 : Bool), v98 = .bool x98_36 ∧ Aside0 (insolvencylaw0_Parties.j3 kq l3 ji5 x11_2 (Int.tmod (wrap64 ((rd_T65 l2 x54_2).f0)) ji5) (Int.tmod (wrap64 ((rd_T65 l2 x54_2).f1)) ji5) (wrap64 (1 + (wrap64 (Int.tmod ((rd_T65 l2 x54_2).f2) 7)))) l2 (l2.length : Int) x54_2 x98_36 x558000_1 x558001_2 = some (r1, r2, r3)) ∧ Aside0 (kq ≤ k2) ∧ Aside0 (Kd.R (Kd.int .i64) 3 wc w.heap.size (fun k_ => some k_ ≠ (u558000 : Value).ownBlock) v559 x11_2) ∧ Aside0 (Kd.R (Kd.int .i64) 3 wc w.heap.size (fun k_ => some k_ ≠ (v559 : Value).ownBlock) u558000 x558000_1) ∧ Aside0 (Kd.R k36 36 wc w.heap.size (fun _ => True) u558001 x558001_2) ∧ Aside0 (wc.heap[gb556]? = some (.cells #[(.slice none 0 0), (.slice none 0 0), (.slice none 0 0)] 26 (0, 0))) ∧ Aside0 (wc.heap[gb557]? = some (.cells #[u558000, u558001, (.slice none 0 0)] 26 (0, 0))) ∧ Aside0 (wc.heap[gb568]? = some (.cells #[.int .u16 ((rd_T65 l2 x54_2).f0), .int .u16 ((rd_T65 l2 x54_2).f1), .int .u16 ((rd_T65 l2 x54_2).f2)] 65 (0, 0))) ∧ Aside0 (Below w.heap.size w wc))
            case first =>
             have H := HC37.out
             clear HC37
             by_cases c44 : (Int.tmod (wrap64 ((rd_T65 l2 x54_2).f0)) ji5) = (Int.tmod (wrap64 ((rd_T65 l2 x54_2).f1)) ji5)
             ·rw [if_pos c44] at H
              have c44b0 : ((Int.tmod (wrap64 ((rd_T65 l2 x54_2).f0)) ji5) == (Int.tmod (wrap64 ((rd_T65 l2 x54_2).f1)) ji5)) = true := beq_iff_eq.mpr c44
              have c44b1 : ((Int.tmod (wrap64 ((rd_T65 l2 x54_2).f0)) ji5) != (Int.tmod (wrap64 ((rd_T65 l2 x54_2).f1)) ji5)) = false := bne_eq_false_iff_eq.mpr c44
              clear c44
              (first | rw [c44b0] | (simp only [i64_w, i32_w]; rw [c44b0]) | rw [c44b1] | skip)
              have H' := Aside0.mk H
              clear H
              go_wp2
              go_meet
              case rel => exact ⟨_, (true), (by first | rfl | (simp; done) | (simp [*]; done)), H', ⟨by have := HK1.out; have := HK2.out; first | omega | exact Nat.le_refl _⟩, ⟨Kd.R_up HO_11.out⟩, ⟨Kd.R_up HO_558000.out⟩, ⟨Kd.R_up HO_558001.out⟩, ⟨kU BK556.out⟩, ⟨kU BK557.out⟩, ⟨kU BK568.out⟩, ⟨bU HB.out⟩⟩
             ·rw [if_neg c44] at H
              have c44b0 : ((Int.tmod (wrap64 ((rd_T65 l2 x54_2).f0)) ji5) == (Int.tmod (wrap64 ((rd_T65 l2 x54_2).f1)) ji5)) = false := beq_eq_false_iff_ne.mpr c44
              have c44b1 : ((Int.tmod (wrap64 ((rd_T65 l2 x54_2).f0)) ji5) != (Int.tmod (wrap64 ((rd_T65 l2 x54_2).f1)) ji5)) = true := bne_iff_ne.mpr c44
              (first | rw [c44b0] | (simp only [i64_w, i32_w]; rw [c44b0]) | rw [c44b1] | skip)
              obtain ⟨ji45, hji45⟩ : ∃ j_ : Int, (Int.tmod (wrap64 ((rd_T65 l2 x54_2).f1)) ji5) = j_ := ⟨_, rfl⟩
              replace H : (if 0 ≤ (ji45) then (if (ji45) < (x558000_1.length : Int) then (if (rd x558000_1 (ji45)) = 2 then (if (ji45) < (x11_2.length : Int) then (if (wrap64 ((rd x11_2 (ji45)) + (wrap64 (1 + (wrap64 (Int.tmod ((rd_T65 l2 x54_2).f2) 7)))))) > 10 then (insolvencylaw0_Parties.j3 k2 l3 ji5 x11_2 (Int.tmod (wrap64 ((rd_T65 l2 x54_2).f0)) ji5) ji45 (wrap64 (1 + (wrap64 (Int.tmod ((rd_T65 l2 x54_2).f2) 7)))) l2 (l2.length : Int) x54_2 true x558000_1 x558001_2) else (insolvencylaw0_Parties.j3 k2 l3 ji5 x11_2 (Int.tmod (wrap64 ((rd_T65 l2 x54_2).f0)) ji5) ji45 (wrap64 (1 + (wrap64 (Int.tmod ((rd_T65 l2 x54_2).f2) 7)))) l2 (l2.length : Int) x54_2 (decide ((x558001_2.length : Int) ≥ 20)) x558000_1 x558001_2)) else (none)) else (insolvencylaw0_Parties.j3 k2 l3 ji5 x11_2 (Int.tmod (wrap64 ((rd_T65 l2 x54_2).f0)) ji5) ji45 (wrap64 (1 + (wrap64 (Int.tmod ((rd_T65 l2 x54_2).f2) 7)))) l2 (l2.length : Int) x54_2 true x558000_1 x558001_2)) else (none)) else (none)) = some (r1, r2, r3) := by first | (rw [hji45] at H; exact H) | (simp only [hji45] at H ⊢; exact H)
              (try rw [hji45] at c44b0)
              (try rw [hji45] at c44b1)
              by_cases c46 : 0 ≤ (ji45)
              ·rw [if_pos c46] at H
               have c46b0 := decide_eq_true c46
               clear c46
               by_cases c47 : (ji45) < (x558000_1.length : Int)
               ·rw [if_pos c47] at H
                have c47b0 := decide_eq_true c47
                clear c47
                by_cases c48 : (rd x558000_1 (ji45)) = 2
                ·rw [if_pos c48] at H
                 have c48b0 : ((rd x558000_1 (ji45)) == 2) = true := beq_iff_eq.mpr c48
                 have c48b1 : ((rd x558000_1 (ji45)) != 2) = false := bne_eq_false_iff_eq.mpr c48
                 clear c48
                 by_cases c49 : (ji45) < (x11_2.length : Int)
                 ·rw [if_pos c49] at H
                  have c49b0 := decide_eq_true c49
                  clear c49
                  by_cases c50 : (wrap64 ((rd x11_2 (ji45)) + (wrap64 (1 + (wrap64 (Int.tmod ((rd_T65 l2 x54_2).f2) 7)))))) > 10
                  ·rw [if_pos c50] at H
                   have c50b0 : decide (10 < (wrap64 ((rd x11_2 (ji45)) + (wrap64 (1 + (wrap64 (Int.tmod ((rd_T65 l2 x54_2).f2) 7))))))) = true := decide_eq_true c50
                   clear c50
                   have H' := Aside0.mk H
                   clear H
                   have hnb51 := NB557_556.out
                   have hnc51 := NB556_557.out
                   have hnb52 := NB557_568.out
                   have hnc52 := NB568_557.out
                   obtain ⟨hcz53_0, hcz53_1, hcz53_2, hfz53_0, hfz53_1, hfz53_2⟩ := cz3 BK557.out
                   obtain ⟨Ao54, co54, eo54⟩ := Kd.R_slice HO_558000.out
                   subst eo54
                   have p569 : 0 ≤ ((ji45) : Int) := oD
                   have q569 : (ji45) < (x558000_1.length : Int) := oD
                   obtain ⟨ad569, e569, hx569_0⟩ := Kd.at_int (Kd.R_reads' HO_558000.out).2.2 (ji45) p569 q569
                   cases e569
                   replace p569 := eq_true p569
                   replace q569 := eq_true q569
                   obtain ⟨Ao55, co55, eo55⟩ := Kd.R_slice HO_11.out
                   subst eo55
                   have p570 : 0 ≤ ((ji45) : Int) := oD
                   have q570 : (ji45) < (x11_2.length : Int) := oD
                   obtain ⟨ad570, e570, hx570_0⟩ := Kd.at_int (Kd.R_reads' HO_11.out).2.2 (ji45) p570 q570
                   cases e570
                   replace p570 := eq_true p570
                   replace q570 := eq_true q570
                   go_wp2
                   go_meet
                   case rel => exact ⟨_, (true), (by first | rfl | (simp; done) | (simp [*]; done)), (by first | exact H' | (simp only [hji45]; exact H')), ⟨by have := HK1.out; have := HK2.out; first | omega | exact Nat.le_refl _⟩, ⟨Kd.R_up HO_11.out⟩, ⟨Kd.R_up HO_558000.out⟩, ⟨Kd.R_up HO_558001.out⟩, ⟨kU BK556.out⟩, ⟨kU BK557.out⟩, ⟨kU BK568.out⟩, ⟨bU HB.out⟩⟩
                  ·rw [if_neg c50] at H
                   have c50b0 : decide (10 < (wrap64 ((rd x11_2 (ji45)) + (wrap64 (1 + (wrap64 (Int.tmod ((rd_T65 l2 x54_2).f2) 7))))))) = false := decide_eq_false c50
                   clear c50
                   have H' := Aside0.mk H
                   clear H
                   have hnb56 := NB557_556.out
                   have hnc56 := NB556_557.out
                   have hnb57 := NB557_568.out
                   have hnc57 := NB568_557.out
                   obtain ⟨hcz58_0, hcz58_1, hcz58_2, hfz58_0, hfz58_1, hfz58_2⟩ := cz3 BK557.out
                   obtain ⟨Ao59, co59, eo59⟩ := Kd.R_slice HO_558000.out
                   subst eo59
                   have p569 : 0 ≤ ((ji45) : Int) := oD
                   have q569 : (ji45) < (x558000_1.length : Int) := oD
                   obtain ⟨ad569, e569, hx569_0⟩ := Kd.at_int (Kd.R_reads' HO_558000.out).2.2 (ji45) p569 q569
                   cases e569
                   replace p569 := eq_true p569
                   replace q569 := eq_true q569
                   obtain ⟨Ao60, co60, eo60⟩ := Kd.R_slice HO_11.out
                   subst eo60
                   have p570 : 0 ≤ ((ji45) : Int) := oD
                   have q570 : (ji45) < (x11_2.length : Int) := oD
                   obtain ⟨ad570, e570, hx570_0⟩ := Kd.at_int (Kd.R_reads' HO_11.out).2.2 (ji45) p570 q570
                   cases e570
                   replace p570 := eq_true p570
                   replace q570 := eq_true q570
                   obtain ⟨Ao61, co61, eo61⟩ := Kd.R_slice HO_558001.out
                   subst eo61
                   go_wp2
                   go_meet
                   case rel => exact ⟨_, (decide ((x558001_2.length : Int) ≥ 20)), (by first | rfl | (simp; done) | (simp [*]; done)), (by first | exact H' | (simp only [hji45]; exact H')), ⟨by have := HK1.out; have := HK2.out; first | omega | exact Nat.le_refl _⟩, ⟨Kd.R_up HO_11.out⟩, ⟨Kd.R_up HO_558000.out⟩, ⟨Kd.R_up HO_558001.out⟩, ⟨kU BK556.out⟩, ⟨kU BK557.out⟩, ⟨kU BK568.out⟩, ⟨bU HB.out⟩⟩
                 ·rw [if_neg c49] at H
                  exact absurd H (by simp)
                ·rw [if_neg c48] at H
                 have c48b0 : ((rd x558000_1 (ji45)) == 2) = false := beq_eq_false_iff_ne.mpr c48
                 have c48b1 : ((rd x558000_1 (ji45)) != 2) = true := bne_iff_ne.mpr c48
                 have H' := Aside0.mk H
                 clear H
                 have hnb62 := NB557_556.out
                 have hnc62 := NB556_557.out
                 have hnb63 := NB557_568.out
                 have hnc63 := NB568_557.out
                 obtain ⟨hcz64_0, hcz64_1, hcz64_2, hfz64_0, hfz64_1, hfz64_2⟩ := cz3 BK557.out
                 obtain ⟨Ao65, co65, eo65⟩ := Kd.R_slice HO_558000.out
                 subst eo65
                 have p569 : 0 ≤ ((ji45) : Int) := oD
                 have q569 : (ji45) < (x558000_1.length : Int) := oD
                 obtain ⟨ad569, e569, hx569_0⟩ := Kd.at_int (Kd.R_reads' HO_558000.out).2.2 (ji45) p569 q569
                 cases e569
                 replace p569 := eq_true p569
                 replace q569 := eq_true q569
                 go_wp2
                 go_meet
                 case rel => exact ⟨_, (true), (by first | rfl | (simp; done) | (simp [*]; done)), (by first | exact H' | (simp only [hji45]; exact H')), ⟨by have := HK1.out; have := HK2.out; first | omega | exact Nat.le_refl _⟩, ⟨Kd.R_up HO_11.out⟩, ⟨Kd.R_up HO_558000.out⟩, ⟨Kd.R_up HO_558001.out⟩, ⟨kU BK556.out⟩, ⟨kU BK557.out⟩, ⟨kU BK568.out⟩, ⟨bU HB.out⟩⟩
               ·rw [if_neg c47] at H
                exact absurd H (by simp)
              ·rw [if_neg c46] at H
               exact absurd H (by simp)
            case rest =>
             clear HC37
             (try clear c1); (try clear c2); (try clear p2); (try clear c3); (try clear c4); (try clear c5); (try clear p5); (try clear q5); (try clear hx5); (try clear c6); (try clear c6b0); (try clear c6b1); (try clear p6); (try clear c7); (try clear c7b0); (try clear c7b1); (try clear c10); (try clear c14); (try clear c14b0); (try clear c16); (try clear c16b0); (try clear c16b1); (try clear c18); (try clear c18b0); (try clear c18b1); (try clear c20); (try clear c21); (try clear c22); (try clear c27); (try clear c28); (try clear c33); (try clear c33b0); (try clear c34); (try clear c34b0); (try clear c35); (try clear c35b0); (try clear c36); (try clear c36b0); (try clear c36b1); (try clear c39); (try clear c40); (try clear c44); (try clear c44b0); (try clear c44b1); (try clear c46); (try clear c46b0); (try clear c47); (try clear c47b0); (try clear c48); (try clear c48b0); (try clear c48b1); (try clear c49); (try clear c49b0); (try clear c50); (try clear c50b0); (try clear c51); (try clear c52); (try clear c56); (try clear p56); (try clear q56); (try clear hx56); (try clear c57); (try clear p57); (try clear q57); (try clear hx57); (try clear c62); (try clear c63); (try clear p64); (try clear hcz11_0 hcz11_1 hcz11_2); (try clear hcz23_0 hcz23_1 hcz23_2); (try clear hcz26_0 hcz26_1 hcz26_2); (try clear hcz29_0 hcz29_1 hcz29_2); (try clear hcz32_0 hcz32_1 hcz32_2); (try clear hcz41_0 hcz41_1 hcz41_2); (try clear hcz53_0 hcz53_1 hcz53_2); (try clear hcz58_0 hcz58_1 hcz58_2); (try clear hcz64_0 hcz64_1 hcz64_2); (try clear hfz11_0 hfz11_1 hfz11_2); (try clear hfz23_0 hfz23_1 hfz23_2); (try clear hfz26_0 hfz26_1 hfz26_2); (try clear hfz29_0 hfz29_1 hfz29_2); (try clear hfz32_0 hfz32_1 hfz32_2); (try clear hfz41_0 hfz41_1 hfz41_2); (try clear hfz53_0 hfz53_1 hfz53_2); (try clear hfz58_0 hfz58_1 hfz58_2); (try clear hfz64_0 hfz64_1 hfz64_2); (try clear hx567_0); (try clear hx567_1); (try clear hx567_2); (try clear hx569_0); (try clear hx570_0); (try clear p2); (try clear p567); (try clear p569); (try clear p570); (try clear p6); (try clear q567); (try clear q569); (try clear q570)
             obtain ⟨kq, x98_36, rfl, HA, HJ36, HO_11, HO_558000, HO_558001, BK556, BK557, BK568, HB⟩ := hcut
             cases kq with
             | zero => exact absurd HA.out (by simp [insolvencylaw0_Parties.j3])
             | succ kj36 =>
              have H := HA.out
              clear HA
              simp only [insolvencylaw0_Parties.j3] at H
              by_cases c66 : x98_36 = true
              ·subst c66
               have H1 : (insolvencylaw0_Parties.l1 kj36 l3 ji5 x11_2 l2 (l2.length : Int) (wrap64 (x54_2 + 1)) x558000_1 x558001_2) = some (r1, r2, r3) := by rw [if_pos rfl] at H; exact H
               clear H
               have H := H1
               clear H1
               have H' := Aside0.mk H
               clear H
               go_wp2
               go_roundg kj36
               case measure => have := HK1.out; have := HK2.out; have := HJ36.out; omega
               case rel => exact ⟨(x11_2), (wrap64 (x54_2 + 1)), (x558001_2), (u558001), (by first | rfl | (simp; done) | (simp [*]; done)), H', ⟨by have := HK1.out; have := HK2.out; have := HJ36.out; omega⟩, ⟨Kd.R_up HO_11.out⟩, ⟨Kd.R_up HO_558000.out⟩, ⟨Kd.R_up HO_558001.out⟩, ⟨kU BK556.out⟩, ⟨kU BK557.out⟩, ⟨bU HB.out⟩⟩
              ·replace c66 := Bool.eq_false_iff.mpr c66
               subst c66
               have H1 : (if 0 ≤ (Int.tmod (wrap64 ((rd_T65 l2 x54_2).f1)) ji5) then (if (Int.tmod (wrap64 ((rd_T65 l2 x54_2).f1)) ji5) < (x11_2.length : Int) then ((insolvencylaw0_Ratio.f kj36 (wrap64 (1 + (wrap64 (Int.tmod ((rd_T65 l2 x54_2).f2) 7)))) 10).bind fun bt573 => (if x558001_2.length < 2513169434916 then (insolvencylaw0_Parties.l1 kj36 l3 ji5 (x11_2.set ((Int.tmod (wrap64 ((rd_T65 l2 x54_2).f1)) ji5) : Int).toNat (wrap64 ((rd x11_2 (Int.tmod (wrap64 ((rd_T65 l2 x54_2).f1)) ji5)) + (wrap64 (1 + (wrap64 (Int.tmod ((rd_T65 l2 x54_2).f2) 7))))))) l2 (l2.length : Int) (wrap64 (x54_2 + 1)) x558000_1 (x558001_2 ++ [(⟨(Int.tmod (wrap64 ((rd_T65 l2 x54_2).f0)) ji5), (Int.tmod (wrap64 ((rd_T65 l2 x54_2).f1)) ji5), (⟨bt573.1, bt573.2.1, bt573.2.2⟩ : S33)⟩ : S36)])) else (none))) else (none)) else (none)) = some (r1, r2, r3) := by rw [if_neg (show ¬ (false = true) by decide)] at H; exact H
               clear H
               have H := H1
               clear H1
               obtain ⟨ji67, hji67⟩ : ∃ j_ : Int, (Int.tmod (wrap64 ((rd_T65 l2 x54_2).f1)) ji5) = j_ := ⟨_, rfl⟩
               replace H : (if 0 ≤ (ji67) then (if (ji67) < (x11_2.length : Int) then ((insolvencylaw0_Ratio.f kj36 (wrap64 (1 + (wrap64 (Int.tmod ((rd_T65 l2 x54_2).f2) 7)))) 10).bind fun bt573 => (if x558001_2.length < 2513169434916 then (insolvencylaw0_Parties.l1 kj36 l3 ji5 (x11_2.set ((ji67) : Int).toNat (wrap64 ((rd x11_2 (ji67)) + (wrap64 (1 + (wrap64 (Int.tmod ((rd_T65 l2 x54_2).f2) 7))))))) l2 (l2.length : Int) (wrap64 (x54_2 + 1)) x558000_1 (x558001_2 ++ [(⟨(Int.tmod (wrap64 ((rd_T65 l2 x54_2).f0)) ji5), (ji67), (⟨bt573.1, bt573.2.1, bt573.2.2⟩ : S33)⟩ : S36)])) else (none))) else (none)) else (none)) = some (r1, r2, r3) := by first | (rw [hji67] at H; exact H) | (simp only [hji67] at H ⊢; exact H)
               by_cases c68 : 0 ≤ (ji67)
               ·rw [if_pos c68] at H
                have c68b0 := decide_eq_true c68
                clear c68
                by_cases c69 : (ji67) < (x11_2.length : Int)
                ·rw [if_pos c69] at H
                 have c69b0 := decide_eq_true c69
                 clear c69
                 obtain ⟨y572, hy572⟩ : ∃ y_ : List Int, y_ = (x11_2.set ((ji67) : Int).toNat (wrap64 ((rd x11_2 (ji67)) + (wrap64 (1 + (wrap64 (Int.tmod ((rd_T65 l2 x54_2).f2) 7))))))) := ⟨_, rfl⟩
                 replace H : ((insolvencylaw0_Ratio.f kj36 (wrap64 (1 + (wrap64 (Int.tmod ((rd_T65 l2 x54_2).f2) 7)))) 10).bind fun bt573 => (if x558001_2.length < 2513169434916 then (insolvencylaw0_Parties.l1 kj36 l3 ji5 y572 l2 (l2.length : Int) (wrap64 (x54_2 + 1)) x558000_1 (x558001_2 ++ [(⟨(Int.tmod (wrap64 ((rd_T65 l2 x54_2).f0)) ji5), (ji67), (⟨bt573.1, bt573.2.1, bt573.2.2⟩ : S33)⟩ : S36)])) else (none))) = some (r1, r2, r3) := by first | (rw [hy572]; with_reducible exact H) | (have H2_ := (Option.bind_some _ _).symm.trans H; rw [hy572]; with_reducible exact H2_) | (have H2_ := (Option.bind_some _ _).symm.trans H; with_reducible exact H2_) | with_reducible exact H | (rw [hy572]; exact H) | exact H
                 have Ny572 := Aside0.mk hy572
                 clear hy572
                 replace H := bE H
                 obtain ⟨⟨t573, t574, t575⟩, A710, H⟩ := H
                 replace H : (if x558001_2.length < 2513169434916 then (insolvencylaw0_Parties.l1 kj36 l3 ji5 y572 l2 (l2.length : Int) (wrap64 (x54_2 + 1)) x558000_1 (x558001_2 ++ [(⟨(Int.tmod (wrap64 ((rd_T65 l2 x54_2).f0)) ji5), (ji67), (⟨t573, t574, t575⟩ : S33)⟩ : S36)])) else (none)) = some (r1, r2, r3) := H
                 have A71 := Aside0.mk A710
                 clear A710
                 by_cases c72 : x558001_2.length < 2513169434916
                 ·rw [if_pos c72] at H
                  have LMc72 := Aside0.mk c72
                  clear c72
                  obtain ⟨y576, hy576⟩ : ∃ y_ : List (S36), y_ = (x558001_2 ++ [(⟨(Int.tmod (wrap64 ((rd_T65 l2 x54_2).f0)) ji5), (ji67), (⟨t573, t574, t575⟩ : S33)⟩ : S36)]) := ⟨_, rfl⟩
                  replace H : (insolvencylaw0_Parties.l1 kj36 l3 ji5 y572 l2 (l2.length : Int) (wrap64 (x54_2 + 1)) x558000_1 y576) = some (r1, r2, r3) := by first | (rw [hy576]; with_reducible exact H) | (have H2_ := (Option.bind_some _ _).symm.trans H; rw [hy576]; with_reducible exact H2_) | (have H2_ := (Option.bind_some _ _).symm.trans H; with_reducible exact H2_) | with_reducible exact H | (rw [hy576]; exact H) | exact H
                  have Ny576 := Aside0.mk hy576
                  clear hy576
                  have H' := Aside0.mk H
                  clear H
                  obtain ⟨Ao73, co73, eo73⟩ := Kd.R_slice HO_11.out
                  subst eo73
                  have p571 : 0 ≤ ((ji67) : Int) := oD
                  have q571 : (ji67) < (x11_2.length : Int) := oD
                  obtain ⟨ad571, e571, hx571_0⟩ := Kd.at_int (Kd.R_reads' HO_11.out).2.2 (ji67) p571 q571
                  cases e571
                  replace p571 := eq_true p571
                  replace q571 := eq_true q571
                  have p70 : 0 ≤ ((ji67) : Int) := oD
                  have q70 : ((ji67) : Int) < ((x11_2.length : Int) : Int) := oD
                  obtain ⟨go70, co70, eo70, gb70, gl70, cl70, HG70⟩ := Kd.R_form HO_11.out (by omega)
                  (first | cases eo70 | (injection eo70 with ea_ en_ ec_; (first | subst ea_ | (injection ea_ with ea_; subst ea_)); subst ec_; clear en_))
                  have GB70 := Aside0.mk gb70
                  have GG70 := Aside0.mk HG70
                  clear gb70 gl70 HG70
                  (first | simp only [add_plain] at hx571_0 | skip)
                  obtain ⟨hx70_0, hf70_0⟩ := Kd.R_celln 0 HO_11.out ((ji67) : Int) p70 q70
                  replace p70 := eq_true p70
                  replace q70 := eq_true q70
                  have HP74 := Kd.R_putg HO_11.out ((ji67) : Int) (wrap64 ((rd x11_2 (ji67)) + (wrap64 (1 + (wrap64 (Int.tmod ((rd_T65 l2 x54_2).f2) 7))))))
                  try go_wp2_with (first | ((with_reducible refine gate_store (t := 3) (p := 105) rfl ?_); refine store_event (t := 3) (p := 105) (v := ?vo_w75) (w1 := (wc.setCell ⟨go70, ((ji67) : Int).toNat, none⟩ (.int .i64 (wrap64 ((rd x11_2 (ji67)) + (wrap64 (1 + (wrap64 (Int.tmod ((rd_T65 l2 x54_2).f2) 7))))))))) ?hg ?ho ?hn ?hr ?_; (case ho => rfl); (case hg => rfl); (case hn => rfl); (case hr => first | (go_simp; done) | (go_simp; rfl)); intro w75 hw; have hg : wc.grownBy w75 (some go70) := (by rw [hw]; exact HP74.2); have hp_ : Kd.R (Kd.int .i64) 3 w75 w.heap.size (fun k_ => some k_ ≠ (u558000 : Value).ownBlock) (.slice (some ⟨go70, 0, none⟩) x11_2.length co73) y572 := (by rw [hw, Ny572.out]; exact HP74.1); clear HP74; have n0_ := aM (hp_); have n1_ := aM (Kd.R_after (v := (.slice (some ⟨go70, 0, none⟩) x11_2.length co73)) (v1 := (.slice (some ⟨go70, 0, none⟩) x11_2.length co73)) (ok := (fun _ => True)) (Kd.R_up (Kd.R_mono HO_558000.out (fun _ hk => ⟨trivial, hk⟩))) hg (.inl rfl)); have n2_ := aM (Kd.R_over' (v := (.slice (some ⟨go70, 0, none⟩) x11_2.length co73)) (Kd.R_up HO_558001.out) (Kd.R_typed HO_11.out) (by decide) hg); have n3_ := aM (blk_grown (kU BK556.out) hg (Kd.R_ne HO_11.out BK556.out (by decide))); have n4_ := aM (blk_grown (kU BK557.out) hg (Kd.R_ne HO_11.out BK557.out (by decide))); have n5_ := aM (blk_grown (kU BK568.out) hg (Kd.R_ne HO_11.out BK568.out (by decide))); have n6_ := aM ((by rw [hw]; exact below_set (HB.out) GB70.out : Below w.heap.size w w75)); clear HO_11; clear HO_558000; clear HO_558001; clear BK556; clear BK557; clear BK568; clear HB; have HO_11 := n0_; have HO_558000 := n1_; have HO_558001 := n2_; have BK556 := n3_; have BK557 := n4_; have BK568 := n5_; have HB := n6_; clear n0_ n1_ n2_ n3_ n4_ n5_ n6_; clear hg hw hp_))
                  have n0_ := aM (Kd.R_drew HO_11.out)
                  have n1_ := aM (Kd.R_drew HO_558000.out)
                  have n2_ := aM (Kd.R_drew HO_558001.out)
                  have n3_ := aM (blk_drew BK556.out)
                  have n4_ := aM (blk_drew BK557.out)
                  have n5_ := aM (blk_drew BK568.out)
                  have n6_ := aM (below_drew1 HB.out)
                  clear HO_11
                  clear HO_558000
                  clear HO_558001
                  clear BK556
                  clear BK557
                  clear BK568
                  clear HB
                  have HO_11 := n0_
                  have HO_558000 := n1_
                  have HO_558001 := n2_
                  have BK556 := n3_
                  have BK557 := n4_
                  have BK568 := n5_
                  have HB := n6_
                  clear n0_ n1_ n2_ n3_ n4_ n5_ n6_
                  refine start_ (n := 11) (S := fun w' => w'.cell? ⟨gb557, 0, none⟩ = some (u558000) ∧ w'.cell? ⟨gb557, 1, none⟩ = some (u558001) ∧ w'.cell? ⟨gb557, 2, none⟩ = some (.slice none 0 0)) (ds := [10]) #[false, false, false, false, false, false, false, false, false, false, false] (by kernel_rfl) rfl rfl ⟨(blk_cell BK557.out 0).trans rfl, (blk_cell BK557.out 1).trans rfl, (blk_cell BK557.out 2).trans rfl⟩ (fun hHeld => ?_); refine with_tabW insolvencylaw0_Parties.tab17 insolvencylaw0_Parties.bits17 (fun HT_ HW_ => ?_)
                  generalize w75.drew = w76 at HO_11 HO_558000 HO_558001 BK556 BK557 BK568 HB hHeld ⊢
                  refine pureq (i := 0) (N := some 106) HT_.out rfl rfl ?_
                  refine pureq (i := 2) (N := some 108) HT_.out rfl rfl ?_
                  refine pureq (i := 3) (N := some 109) HT_.out rfl rfl ?_
                  refine pureq (i := 4) (N := some 110) HT_.out rfl rfl ?_
                  refine takeq (i := 1) (N := some 107) HT_.out HW_.out hHeld rfl rfl ?_
                  refine one_ (i := 5) (N := some 111) #[true, true, true, true, true, true, false, false, false, false, false] rfl rfl (one_of HT_.out (by kernel_rfl)) (by decide) (fun K hK => ?_)
                  refine goesq Tryd.func13 #[.int .i64 (wrap64 (1 + (wrap64 (Int.tmod ((rd_T65 l2 x54_2).f2) 7)))), .int .i64 10] (by rfl) rfl rfl ?_
                  with_reducible refine (insolvencylaw0_Ratio.calls kj36 (wrap64 (1 + (wrap64 (Int.tmod ((rd_T65 l2 x54_2).f2) 7)))) 10 t573 t574 t575 _ A71.out).mono ?_
                  rintro e w77 ⟨rfl, hb⟩
                  refine ⟨_, rfl, ?_⟩
                  have n0_ := aM (Kd.R_below (Kd.R_up HO_11.out) hb)
                  have n1_ := aM (Kd.R_below (Kd.R_up HO_558000.out) hb)
                  have n2_ := aM (Kd.R_below (Kd.R_up HO_558001.out) hb)
                  have n3_ := aM (blk_below (kU BK556.out) hb)
                  have n4_ := aM (blk_below (kU BK557.out) hb)
                  have n5_ := aM (blk_below (kU BK568.out) hb)
                  have n6_ := aM (below_step (bU HB.out) hb)
                  clear HO_11
                  clear HO_558000
                  clear HO_558001
                  clear BK556
                  clear BK557
                  clear BK568
                  clear HB
                  have HO_11 := n0_
                  have HO_558000 := n1_
                  have HO_558001 := n2_
                  have BK556 := n3_
                  have BK557 := n4_
                  have BK568 := n5_
                  have HB := n6_
                  clear n0_ n1_ n2_ n3_ n4_ n5_ n6_
                  (try clear hb)
                  (try clear hb2)
                  (try clear hk)
                  (try clear hi)
                  refine hK.out _ _ ⟨(blk_cell BK557.out 0).trans rfl, (blk_cell BK557.out 1).trans rfl, (blk_cell BK557.out 2).trans rfl⟩ (fun hHeld => ?_)
                  clear hK K
                  refine norm_ (a' := ?_) ?_ ?_
                  rotate_left
                  ·show Act.put _ (some 111) _ = _
                   simp only [Act.put, sTA, sC0, sCS, i64_w, i32_w]
                   rfl
                  refine pureq (i := 6) (N := some 112) HT_.out rfl rfl ?_
                  refine one_ (i := 7) (N := some 113) #[true, true, true, true, true, true, true, true, false, false, false] rfl rfl (one_of HT_.out (by kernel_rfl)) (by decide) (fun K hK => ?_)
                  refine value_ (w1 := ?_) (v := ?_) (by rfl) rfl ?_ ?_
                  rotate_left 2
                  ·go_simp
                   constructor
                   ·rfl
                   ·rfl
                  refine hK.out _ _ ⟨(blk_cell (blk_alloc BK557.out _) 0).trans rfl, (blk_cell (blk_alloc BK557.out _) 1).trans rfl, (blk_cell (blk_alloc BK557.out _) 2).trans rfl⟩ (fun hHeld => ?_)
                  clear hK K
                  refine norm_ (a' := ?_) ?_ ?_
                  rotate_left
                  ·show Act.put _ (some 113) _ = _
                   simp only [Act.put, sTA, sC0, sCS, i64_w, i32_w]
                   rfl
                  refine one_ (i := 8) (N := some 114) #[true, true, true, true, true, true, true, true, true, false, false] rfl rfl (one_of HT_.out (by kernel_rfl)) (by decide) (fun K hK => ?_)
                  refine Kd.R_append_step k36 (w0 := w) w.heap.size (by rfl) (.tmp 107) (.tmp 113) 23 36 (.agg #[(.int .i64 0), (.int .i64 0), (.bool false), (.string ⟨#[]⟩), (.string ⟨#[]⟩)]) 56 rfl Tryd.underlying23 info36 rfl (by decide) (by omega) u558001 x558001_2 (⟨(Int.tmod (wrap64 ((rd_T65 l2 x54_2).f0)) ji5), (ji67), (⟨t573, t574, t575⟩ : S33)⟩ : S36) [.int .i64 (Int.tmod (wrap64 ((rd_T65 l2 x54_2).f0)) ji5), .int .i64 (ji67), .bool t573, .string t574, .string t575] (fun _ => True) (fun _ => False) rfl rfl ?aP (fun _ hk => hk.elim) ?aF ?aO ?aB ?aS ?aL ?_
                  (case aP => exact k36_mkM _ _ _ (⟨(Int.tmod (wrap64 ((rd_T65 l2 x54_2).f0)) ji5), (ji67), (⟨t573, t574, t575⟩ : S33)⟩ : S36))
                  (case aB => exact (bU HB.out))
                  (case aF => exact (fun _ _ => trivial))
                  (case aO => exact (Kd.R_up HO_558001.out))
                  (case aS => exact (below_size (bU HB.out)))
                  (case aL => have := LMc72.out; omega)
                  intro v577 w78 ho hb hg hat
                  rw [← Ny576.out] at ho
                  have n0_ := aM (Kd.R_over' (Kd.R_up HO_11.out) (Kd.R_typed (Kd.R_up HO_558001.out)) (by decide) hg)
                  have n1_ := aM (Kd.R_over' (Kd.R_up HO_558000.out) (Kd.R_typed (Kd.R_up HO_558001.out)) (by decide) hg)
                  have n2_ := aM (blk_grown (kU BK556.out) hg (Kd.R_ne HO_558001.out BK556.out (by decide)))
                  have n3_ := aM (blk_grown (kU BK557.out) hg (Kd.R_ne HO_558001.out BK557.out (by decide)))
                  have n4_ := aM (blk_grown (kU BK568.out) hg (Kd.R_ne HO_558001.out BK568.out (by decide)))
                  have n5_ := aM (hb)
                  have n6_ := aM (ho)
                  clear HO_11
                  clear HO_558000
                  clear BK556
                  clear BK557
                  clear BK568
                  clear HB
                  clear HO_558001
                  have HO_11 := n0_
                  have HO_558000 := n1_
                  have BK556 := n2_
                  have BK557 := n3_
                  have BK568 := n4_
                  have HB := n5_
                  have HO578 := n6_
                  clear n0_ n1_ n2_ n3_ n4_ n5_ n6_
                  clear ho hb hg hat
                  obtain ⟨Ao79, co79, eo79⟩ := Kd.R_slice HO578.out
                  (first | subst eo79 | (injection eo79 with f1_ f2_ f3_; have f4_ := f1_.symm; have f5_ := f3_.symm; clear f1_ f2_ f3_; subst f4_; subst f5_))
                  refine hK.out _ _ ⟨(blk_cell BK557.out 0).trans rfl, (blk_cell BK557.out 1).trans rfl, (blk_cell BK557.out 2).trans rfl⟩ (fun hHeld => ?_)
                  clear hK K
                  refine norm_ (a' := ?_) ?_ ?_
                  rotate_left
                  ·show Act.put _ (some 114) _ = _
                   simp only [Act.put, sTA, sC0, sCS, i64_w, i32_w]
                   rfl
                  refine pureq (i := 9) (N := some 115) HT_.out rfl rfl ?_
                  refine last_ (i := 10) (N := none) #[true, true, true, true, true, true, true, true, true, true, true] rfl rfl (one_of HT_.out (by kernel_rfl)) (by decide) (fun K hK => ?_)
                  have hs80 : w78.cell? ⟨gb557, 1, none⟩ = some (u558001) := (blk_cell BK557.out 1).trans rfl
                  have hfs80 := blk_frozen BK557.out 1
                  have hns80_0 := NB556_557.out
                  have hns80_2 := NB568_557.out
                  have hms80_0 := NB557_556.out
                  have hms80_2 := NB557_568.out
                  refine skip_ (w1 := ?_) (by rfl) rfl ?_ ?_
                  rotate_left
                  ·go_simp
                   rfl
                  refine hK.out _ _ ?_
                  clear hK K
                  refine done_ (done_of HT_.out (by kernel_rfl)) ?_
                  try go_wp2
                  go_roundg kj36
                  case measure => have := HK1.out; have := HK2.out; have := HJ36.out; omega
                  case rel => exact ⟨(y572), (wrap64 (x54_2 + 1)), (y576), (.slice Ao79 y576.length co79), (by first | rfl | (simp; done) | (simp [*]; done)), (by first | exact H' | (simp only [hji67]; exact H')), ⟨by have := HK1.out; have := HK2.out; have := HJ36.out; omega⟩, ⟨Kd.R_up (Kd.R_mono (Kd.R_far (p := ⟨gb557, 1, none⟩) (Kd.R_types HO_11.out BK557.out (by decide)) (fun _ hk => hk.2) (.slice Ao79 y576.length co79)) (fun _ hk => hk.1))⟩, ⟨Kd.R_up (Kd.R_mono (Kd.R_far (p := ⟨gb557, 1, none⟩) (Kd.R_types HO_558000.out BK557.out (by decide)) (fun _ hk => hk.2) (.slice Ao79 y576.length co79)) (fun _ hk => hk.1.2))⟩, ⟨Kd.R_up (Kd.R_mono (Kd.R_far (p := ⟨gb557, 1, none⟩) (Kd.R_types HO578.out BK557.out (by decide)) (fun _ hk => hk.2) (.slice Ao79 y576.length co79)) (fun _ hk => trivial))⟩, ⟨kP BK556.out⟩, ⟨kP BK557.out⟩, ⟨bU HB.out⟩⟩
                 ·rw [if_neg c72] at H
                  exact absurd H (by simp)
                ·rw [if_neg c69] at H
                 exact absurd H (by simp)
               ·rw [if_neg c68] at H
                exact absurd H (by simp)
          ·rw [if_neg c35] at H
           exact absurd H (by simp)
         ·rw [if_neg c34] at H
          exact absurd H (by simp)
        ·rw [if_neg c33] at H
         have c33b0 := decide_eq_false c33
         clear c33
         have H' := Aside0.mk H
         clear H
         go_wp2
         go_loopg [119] k2 (fun kq v119 w' => ∃ (x119_3 : Int) (x558002_3 : List (S38)) (u558002 : Value), v119 = .int .i64 x119_3 ∧ Aside0 (insolvencylaw0_Parties.l2 kq ji5 l3 (l3.length : Int) x119_3 x558000_1 x558001_2 x558002_3 = some (r1, r2, r3)) ∧ Aside0 (kq ≤ k2) ∧ Aside0 (Kd.R (Kd.int .i64) 3 w' w.heap.size (fun _ => True) u558000 x558000_1) ∧ Aside0 (Kd.R k36 36 w' w.heap.size (fun _ => True) u558001 x558001_2) ∧ Aside0 (Kd.R k38 38 w' w.heap.size (fun _ => True) u558002 x558002_3) ∧ Aside0 (w'.heap[gb556]? = some (.cells #[(.slice none 0 0), (.slice none 0 0), (.slice none 0 0)] 26 (0, 0))) ∧ Aside0 (w'.heap[gb557]? = some (.cells #[u558000, u558001, u558002] 26 (0, 0))) ∧ Aside0 (Below w.heap.size w w'))
         case atStart => exact ⟨(0), (([] : List (S38))), (.slice none 0 0), (by first | rfl | (simp; done) | (simp [*]; done)), H', ⟨Nat.le_refl _⟩, ⟨Kd.R_up (Kd.R_mono HO_558000.out (fun _ hk => trivial))⟩, ⟨Kd.R_up HO_558001.out⟩, ⟨by first | exact Kd.R_nil _ _ _ _ _ | exact Kd.N_nil _ _ _ _ _ | exact Kd.V_nil _ _ _ _ _ | exact Kd.Q_nil _ _ _ _ _ | exact Kd.S_nil _ _ _ _ _⟩, ⟨kU BK556.out⟩, ⟨kU BK557.out⟩, ⟨bU HB.out⟩⟩
         case round =>
          clear H'
          (try clear c1); (try clear c2); (try clear p2); (try clear c3); (try clear c4); (try clear c5); (try clear p5); (try clear q5); (try clear hx5); (try clear c6); (try clear c6b0); (try clear c6b1); (try clear p6); (try clear c7); (try clear c7b0); (try clear c7b1); (try clear p7); (try clear q7); (try clear hx7); (try clear hf7); (try clear c10); (try clear c13); (try clear c14); (try clear c14b0); (try clear c16); (try clear c16b0); (try clear c16b1); (try clear c18); (try clear c18b0); (try clear c18b1); (try clear c20); (try clear c21); (try clear c22); (try clear c27); (try clear c28); (try clear c33); (try clear c33b0); (try clear c34); (try clear c34b0); (try clear c35); (try clear c35b0); (try clear c36); (try clear c36b0); (try clear c36b1); (try clear c39); (try clear c40); (try clear c44); (try clear c44b0); (try clear c44b1); (try clear c46); (try clear c46b0); (try clear c47); (try clear c47b0); (try clear c48); (try clear c48b0); (try clear c48b1); (try clear c49); (try clear c49b0); (try clear c50); (try clear c50b0); (try clear c51); (try clear c52); (try clear c56); (try clear p56); (try clear q56); (try clear hx56); (try clear c57); (try clear p57); (try clear q57); (try clear hx57); (try clear c62); (try clear c63); (try clear p64); (try clear c66); (try clear c68); (try clear c68b0); (try clear c69); (try clear c69b0); (try clear p70); (try clear q70); (try clear hx70); (try clear hf70); (try clear c72); (try clear hcz11_0 hcz11_1 hcz11_2); (try clear hcz23_0 hcz23_1 hcz23_2); (try clear hcz26_0 hcz26_1 hcz26_2); (try clear hcz29_0 hcz29_1 hcz29_2); (try clear hcz32_0 hcz32_1 hcz32_2); (try clear hcz41_0 hcz41_1 hcz41_2); (try clear hcz53_0 hcz53_1 hcz53_2); (try clear hcz58_0 hcz58_1 hcz58_2); (try clear hcz64_0 hcz64_1 hcz64_2); (try clear hfz11_0 hfz11_1 hfz11_2); (try clear hfz23_0 hfz23_1 hfz23_2); (try clear hfz26_0 hfz26_1 hfz26_2); (try clear hfz29_0 hfz29_1 hfz29_2); (try clear hfz32_0 hfz32_1 hfz32_2); (try clear hfz41_0 hfz41_1 hfz41_2); (try clear hfz53_0 hfz53_1 hfz53_2); (try clear hfz58_0 hfz58_1 hfz58_2); (try clear hfz64_0 hfz64_1 hfz64_2); (try clear hx567_0); (try clear hx567_1); (try clear hx567_2); (try clear hx569_0); (try clear hx570_0); (try clear hx571_0); (try clear hx70_0); (try clear p2); (try clear p5); (try clear p56); (try clear p567); (try clear p569); (try clear p57); (try clear p570); (try clear p571); (try clear p6); (try clear p64); (try clear p70); (try clear q5); (try clear q56); (try clear q567); (try clear q569); (try clear q57); (try clear q570); (try clear q571); (try clear q70)
          obtain ⟨x119_3, x558002_3, u558002, rfl, HA, HK3, HO_558000, HO_558001, HO_558002, BK556, BK557, HB⟩ := hrel
          cases gk with
          | zero => exact absurd HA.out (by simp [insolvencylaw0_Parties.l2])
          | succ k3 =>
           have H := HA.out
           clear HA
           simp only [insolvencylaw0_Parties.l2] at H
           by_cases c81 : x119_3 < (l3.length : Int)
           ·rw [if_pos c81] at H
            have c81b0 := decide_eq_true c81
            clear c81
            by_cases c82 : 0 ≤ x119_3
            ·rw [if_pos c82] at H
             have c82b0 := decide_eq_true c82
             clear c82
             by_cases c83 : x119_3 < (l3.length : Int)
             ·rw [if_pos c83] at H
              have c83b0 := decide_eq_true c83
              clear c83
              by_cases c84 : ji5 = 0
              ·rw [if_pos c84] at H
               exact absurd H (by simp)
              ·rw [if_neg c84] at H
               have c84b0 : (ji5 == 0) = false := beq_eq_false_iff_ne.mpr c84
               have c84b1 : (ji5 != 0) = true := bne_iff_ne.mpr c84
               have HC85 := Aside0.mk H
               clear H
               have p579 : 0 ≤ (x119_3 : Int) := oD
               have q579 : x119_3 < (l3.length : Int) := oD
               obtain ⟨ad579, e579, hx579_0, hx579_1⟩ := at_T66 HR3.out x119_3 p579 q579
               cases e579
               replace hx579_0 := (HB.out.cell (World.block_lt_of_cell? w _ hx579_0)).trans hx579_0
               replace hx579_1 := (HB.out.cell (World.block_lt_of_cell? w _ hx579_1)).trans hx579_1
               replace p579 := eq_true p579
               replace q579 := eq_true q579
               try go_wp2_with (first | ((with_reducible refine gate_dst (N := 20) rfl ?_); refine box_event ?hg (N := 20) ?hd (cs := #[.int .u16 0, .int .u16 0]) (t := 66) ?hr ?_; (case hd => rfl); (case hg => rfl); (case hr => first | (go_simp; done) | (go_simp; rfl)); intro gb580 hg w86 hbox hb; have n0_ := aM (Kd.R_below (Kd.R_up HO_558000.out) hb); have n1_ := aM (Kd.R_below (Kd.R_up HO_558001.out) hb); have n2_ := aM (Kd.R_below (Kd.R_up HO_558002.out) hb); have n3_ := aM (blk_below (kU BK556.out) hb); have n4_ := aM (blk_below (kU BK557.out) hb); have n5_ := aM (below_step (bU HB.out) hb); have n6_ := aM (hbox); have n7_ := aM ((by rw [hg]; exact (below_size (bU HB.out)) : w.heap.size ≤ gb580)); have n8_ := aM ((by rw [hg]; exact (below_size (bU HB.out)) : w.heap.size ≤ gb580)); have n9_ := aM ((by rw [hg]; exact Nat.ne_of_lt (blk_lt (kU BK556.out)) : gb556 ≠ gb580)); have n10_ := aM ((by rw [hg]; exact Nat.ne_of_gt (blk_lt (kU BK556.out)) : gb580 ≠ gb556)); have n11_ := aM ((by rw [hg]; exact Nat.ne_of_lt (blk_lt (kU BK557.out)) : gb557 ≠ gb580)); have n12_ := aM ((by rw [hg]; exact Nat.ne_of_gt (blk_lt (kU BK557.out)) : gb580 ≠ gb557)); clear HO_558000; clear HO_558001; clear HO_558002; clear BK556; clear BK557; clear HB; have HO_558000 := n0_; have HO_558001 := n1_; have HO_558002 := n2_; have BK556 := n3_; have BK557 := n4_; have HB := n5_; have BK580 := n6_; have GW580 := n7_; have GE580 := n8_; have NB556_580 := n9_; have NB580_556 := n10_; have NB557_580 := n11_; have NB580_557 := n12_; clear n0_ n1_ n2_ n3_ n4_ n5_ n6_ n7_ n8_ n9_ n10_ n11_ n12_; clear hb hbox hg; have hnb87 := NB580_556.out; have hnc87 := NB556_580.out; have hnb88 := NB580_557.out; have hnc88 := NB557_580.out; obtain ⟨hcz89_0, hcz89_1, hfz89_0, hfz89_1⟩ := cz2 BK580.out))
               have n0_ : Aside0 (Kd.R (Kd.int .i64) 3 ((w86.setCell ⟨gb580, 0, none⟩ (.int .u16 ((rd_T66 l3 x119_3).f0))).setCell ⟨gb580, 1, none⟩ (.int .u16 ((rd_T66 l3 x119_3).f1))) w.heap.size (fun _ => True) u558000 x558000_1) := ⟨Kd.R_up (Kd.R_mono (Kd.R_far (p := ⟨gb580, 1, none⟩) (Kd.R_far (p := ⟨gb580, 0, none⟩) (Kd.R_types HO_558000.out BK580.out (by decide)) (fun _ hk => hk.2) (.int .u16 ((rd_T66 l3 x119_3).f0))) (fun _ hk => hk.2) (.int .u16 ((rd_T66 l3 x119_3).f1))) (fun _ hk => trivial))⟩
               have n1_ : Aside0 (Kd.R k36 36 ((w86.setCell ⟨gb580, 0, none⟩ (.int .u16 ((rd_T66 l3 x119_3).f0))).setCell ⟨gb580, 1, none⟩ (.int .u16 ((rd_T66 l3 x119_3).f1))) w.heap.size (fun _ => True) u558001 x558001_2) := ⟨Kd.R_up (Kd.R_mono (Kd.R_far (p := ⟨gb580, 1, none⟩) (Kd.R_far (p := ⟨gb580, 0, none⟩) (Kd.R_types HO_558001.out BK580.out (by decide)) (fun _ hk => hk.2) (.int .u16 ((rd_T66 l3 x119_3).f0))) (fun _ hk => hk.2) (.int .u16 ((rd_T66 l3 x119_3).f1))) (fun _ hk => trivial))⟩
               have n2_ : Aside0 (Kd.R k38 38 ((w86.setCell ⟨gb580, 0, none⟩ (.int .u16 ((rd_T66 l3 x119_3).f0))).setCell ⟨gb580, 1, none⟩ (.int .u16 ((rd_T66 l3 x119_3).f1))) w.heap.size (fun _ => True) u558002 x558002_3) := ⟨Kd.R_up (Kd.R_mono (Kd.R_far (p := ⟨gb580, 1, none⟩) (Kd.R_far (p := ⟨gb580, 0, none⟩) (Kd.R_types HO_558002.out BK580.out (by decide)) (fun _ hk => hk.2) (.int .u16 ((rd_T66 l3 x119_3).f0))) (fun _ hk => hk.2) (.int .u16 ((rd_T66 l3 x119_3).f1))) (fun _ hk => trivial))⟩
               have n3_ : Aside0 (((w86.setCell ⟨gb580, 0, none⟩ (.int .u16 ((rd_T66 l3 x119_3).f0))).setCell ⟨gb580, 1, none⟩ (.int .u16 ((rd_T66 l3 x119_3).f1))).heap[gb556]? = some (.cells #[.slice none 0 0, .slice none 0 0, .slice none 0 0] 26 (0, 0))) := ⟨kP BK556.out⟩
               have n4_ : Aside0 (((w86.setCell ⟨gb580, 0, none⟩ (.int .u16 ((rd_T66 l3 x119_3).f0))).setCell ⟨gb580, 1, none⟩ (.int .u16 ((rd_T66 l3 x119_3).f1))).heap[gb557]? = some (.cells #[u558000, u558001, u558002] 26 (0, 0))) := ⟨kP BK557.out⟩
               have n5_ : Aside0 (((w86.setCell ⟨gb580, 0, none⟩ (.int .u16 ((rd_T66 l3 x119_3).f0))).setCell ⟨gb580, 1, none⟩ (.int .u16 ((rd_T66 l3 x119_3).f1))).heap[gb580]? = some (.cells #[.int .u16 ((rd_T66 l3 x119_3).f0), .int .u16 ((rd_T66 l3 x119_3).f1)] 66 (0, 0))) := ⟨kP BK580.out⟩
               have n6_ : Aside0 (Below w.heap.size w ((w86.setCell ⟨gb580, 0, none⟩ (.int .u16 ((rd_T66 l3 x119_3).f0))).setCell ⟨gb580, 1, none⟩ (.int .u16 ((rd_T66 l3 x119_3).f1)))) := ⟨bU HB.out⟩
               (try clear HO_558000)
               (try clear HO_558001)
               (try clear HO_558002)
               (try clear BK556)
               (try clear BK557)
               (try clear BK580)
               (try clear HB)
               generalize ((w86.setCell ⟨gb580, 0, none⟩ (.int .u16 ((rd_T66 l3 x119_3).f0))).setCell ⟨gb580, 1, none⟩ (.int .u16 ((rd_T66 l3 x119_3).f1))) = w90 at n0_ n1_ n2_ n3_ n4_ n5_ n6_ ⊢
               have HO_558000 := n0_
               have HO_558001 := n1_
               have HO_558002 := n2_
               have BK556 := n3_
               have BK557 := n4_
               have BK580 := n5_
               have HB := n6_
               clear n0_ n1_ n2_ n3_ n4_ n5_ n6_
               have n0_ := aM (Kd.R_drew HO_558000.out)
               have n1_ := aM (Kd.R_drew HO_558001.out)
               have n2_ := aM (Kd.R_drew HO_558002.out)
               have n3_ := aM (blk_drew BK556.out)
               have n4_ := aM (blk_drew BK557.out)
               have n5_ := aM (blk_drew BK580.out)
               have n6_ := aM (below_drew1 HB.out)
               clear HO_558000
               clear HO_558001
               clear HO_558002
               clear BK556
               clear BK557
               clear BK580
               clear HB
               have HO_558000 := n0_
               have HO_558001 := n1_
               have HO_558002 := n2_
               have BK556 := n3_
               have BK557 := n4_
               have BK580 := n5_
               have HB := n6_
               clear n0_ n1_ n2_ n3_ n4_ n5_ n6_
               refine start_ (n := 12) (S := fun w' => w'.cell? ⟨gb580, 0, none⟩ = some (.int .u16 ((rd_T66 l3 x119_3).f0)) ∧ w'.cell? ⟨gb580, 1, none⟩ = some (.int .u16 ((rd_T66 l3 x119_3).f1))) (ds := []) #[false, false, false, false, false, false, false, false, false, false, false, false] (by kernel_rfl) rfl rfl ⟨(blk_cell BK580.out 0).trans rfl, (blk_cell BK580.out 1).trans rfl⟩ (fun hHeld => ?_); refine with_tabW insolvencylaw0_Parties.tab22 insolvencylaw0_Parties.bits22 (fun HT_ HW_ => ?_)
               generalize w90.drew = w91 at HO_558000 HO_558001 HO_558002 BK556 BK557 BK580 HB hHeld ⊢
               refine pureq (i := 0) (N := some 123) HT_.out rfl rfl ?_
               refine pureq (i := 3) (N := some 126) HT_.out rfl rfl ?_
               refine pureq (i := 5) (N := some 128) HT_.out rfl rfl ?_
               refine pureq (i := 8) (N := some 131) HT_.out rfl rfl ?_
               refine takeq (i := 1) (N := some 124) HT_.out HW_.out hHeld rfl rfl ?_
               refine pureq (i := 2) (N := some 125) HT_.out rfl rfl ?_
               refine pureq (i := 4) (N := some 127) HT_.out rfl rfl ?_
               refine pureq (i := 10) (N := some 21) HT_.out rfl rfl ?_
               refine takeq (i := 6) (N := some 129) HT_.out HW_.out hHeld rfl rfl ?_
               refine pureq (i := 7) (N := some 130) HT_.out rfl rfl ?_
               refine pureq (i := 9) (N := some 132) HT_.out rfl rfl ?_
               refine pureq (i := 11) (N := some 22) HT_.out rfl rfl ?_
               refine done_ (done_of HT_.out (by kernel_rfl)) ?_
               go_upto_region 23 with (fail)
               go_cut [141] (fun v141 wc => ∃ (kq : Nat) (x141_84 : Bool), v141 = .bool x141_84 ∧ Aside0 (insolvencylaw0_Parties.j5 kq ji5 (Int.tmod (wrap64 ((rd_T66 l3 x119_3).f0)) ji5) (Int.tmod (wrap64 ((rd_T66 l3 x119_3).f1)) ji5) l3 (l3.length : Int) x119_3 x141_84 x558000_1 x558001_2 x558002_3 = some (r1, r2, r3)) ∧ Aside0 (kq ≤ k3) ∧ Aside0 (Kd.R (Kd.int .i64) 3 wc w.heap.size (fun _ => True) u558000 x558000_1) ∧ Aside0 (Kd.R k36 36 wc w.heap.size (fun _ => True) u558001 x558001_2) ∧ Aside0 (Kd.R k38 38 wc w.heap.size (fun _ => True) u558002 x558002_3) ∧ Aside0 (wc.heap[gb556]? = some (.cells #[(.slice none 0 0), (.slice none 0 0), (.slice none 0 0)] 26 (0, 0))) ∧ Aside0 (wc.heap[gb557]? = some (.cells #[u558000, u558001, u558002] 26 (0, 0))) ∧ Aside0 (wc.heap[gb580]? = some (.cells #[.int .u16 ((rd_T66 l3 x119_3).f0), .int .u16 ((rd_T66 l3 x119_3).f1)] 66 (0, 0))) ∧ Aside0 (Below w.heap.size w wc))
               case first =>
                have H := HC85.out
                clear HC85
                by_cases c92 : (Int.tmod (wrap64 ((rd_T66 l3 x119_3).f0)) ji5) = (Int.tmod (wrap64 ((rd_T66 l3 x119_3).f1)) ji5)
                ·rw [if_pos c92] at H
                 have c92b0 : ((Int.tmod (wrap64 ((rd_T66 l3 x119_3).f0)) ji5) == (Int.tmod (wrap64 ((rd_T66 l3 x119_3).f1)) ji5)) = true := beq_iff_eq.mpr c92
                 have c92b1 : ((Int.tmod (wrap64 ((rd_T66 l3 x119_3).f0)) ji5) != (Int.tmod (wrap64 ((rd_T66 l3 x119_3).f1)) ji5)) = false := bne_eq_false_iff_eq.mpr c92
                 clear c92
                 (first | rw [c92b0] | (simp only [i64_w, i32_w]; rw [c92b0]) | rw [c92b1] | skip)
                 have H' := Aside0.mk H
                 clear H
                 go_wp2
                 go_meet
                 case rel => exact ⟨_, (false), (by first | rfl | (simp; done) | (simp [*]; done)), H', ⟨by have := HK1.out; have := HK2.out; have := HK3.out; first | omega | exact Nat.le_refl _⟩, ⟨Kd.R_up HO_558000.out⟩, ⟨Kd.R_up HO_558001.out⟩, ⟨Kd.R_up HO_558002.out⟩, ⟨kU BK556.out⟩, ⟨kU BK557.out⟩, ⟨kU BK580.out⟩, ⟨bU HB.out⟩⟩
                ·rw [if_neg c92] at H
                 have c92b0 : ((Int.tmod (wrap64 ((rd_T66 l3 x119_3).f0)) ji5) == (Int.tmod (wrap64 ((rd_T66 l3 x119_3).f1)) ji5)) = false := beq_eq_false_iff_ne.mpr c92
                 have c92b1 : ((Int.tmod (wrap64 ((rd_T66 l3 x119_3).f0)) ji5) != (Int.tmod (wrap64 ((rd_T66 l3 x119_3).f1)) ji5)) = true := bne_iff_ne.mpr c92
                 (first | rw [c92b0] | (simp only [i64_w, i32_w]; rw [c92b0]) | rw [c92b1] | skip)
                 have H' := Aside0.mk H
                 clear H
                 have hnb93 := NB557_556.out
                 have hnc93 := NB556_557.out
                 have hnb94 := NB557_580.out
                 have hnc94 := NB580_557.out
                 obtain ⟨hcz95_0, hcz95_1, hcz95_2, hfz95_0, hfz95_1, hfz95_2⟩ := cz3 BK557.out
                 obtain ⟨Ao96, co96, eo96⟩ := Kd.R_slice HO_558002.out
                 subst eo96
                 go_wp2
                 go_meet
                 case rel => exact ⟨_, (decide ((x558002_3.length : Int) < 6)), (by first | rfl | (simp; done) | (simp [*]; done)), H', ⟨by have := HK1.out; have := HK2.out; have := HK3.out; first | omega | exact Nat.le_refl _⟩, ⟨Kd.R_up HO_558000.out⟩, ⟨Kd.R_up HO_558001.out⟩, ⟨Kd.R_up HO_558002.out⟩, ⟨kU BK556.out⟩, ⟨kU BK557.out⟩, ⟨kU BK580.out⟩, ⟨bU HB.out⟩⟩
               case rest =>
                clear HC85
                (try clear c1); (try clear c2); (try clear p2); (try clear c3); (try clear c4); (try clear c5); (try clear p5); (try clear q5); (try clear hx5); (try clear c6); (try clear c6b0); (try clear c6b1); (try clear p6); (try clear c7); (try clear c7b0); (try clear c7b1); (try clear p7); (try clear q7); (try clear hx7); (try clear hf7); (try clear c8); (try clear c9); (try clear c10); (try clear c13); (try clear c14); (try clear c14b0); (try clear c16); (try clear c16b0); (try clear c16b1); (try clear c18); (try clear c18b0); (try clear c18b1); (try clear c20); (try clear c21); (try clear c22); (try clear c27); (try clear c28); (try clear c33); (try clear c33b0); (try clear c34); (try clear c34b0); (try clear c35); (try clear c35b0); (try clear c36); (try clear c36b0); (try clear c36b1); (try clear c39); (try clear c40); (try clear c44); (try clear c44b0); (try clear c44b1); (try clear c46); (try clear c46b0); (try clear c47); (try clear c47b0); (try clear c48); (try clear c48b0); (try clear c48b1); (try clear c49); (try clear c49b0); (try clear c50); (try clear c50b0); (try clear c51); (try clear c52); (try clear c56); (try clear p56); (try clear q56); (try clear hx56); (try clear c57); (try clear p57); (try clear q57); (try clear hx57); (try clear c62); (try clear c63); (try clear p64); (try clear c66); (try clear c68); (try clear c68b0); (try clear c69); (try clear c69b0); (try clear p70); (try clear q70); (try clear hx70); (try clear hf70); (try clear c72); (try clear c81); (try clear c81b0); (try clear c82); (try clear c82b0); (try clear c83); (try clear c83b0); (try clear c84); (try clear c84b0); (try clear c84b1); (try clear c87); (try clear c88); (try clear c92); (try clear c92b0); (try clear c92b1); (try clear c93); (try clear c94); (try clear hcz11_0 hcz11_1 hcz11_2); (try clear hcz23_0 hcz23_1 hcz23_2); (try clear hcz26_0 hcz26_1 hcz26_2); (try clear hcz29_0 hcz29_1 hcz29_2); (try clear hcz32_0 hcz32_1 hcz32_2); (try clear hcz41_0 hcz41_1 hcz41_2); (try clear hcz53_0 hcz53_1 hcz53_2); (try clear hcz58_0 hcz58_1 hcz58_2); (try clear hcz64_0 hcz64_1 hcz64_2); (try clear hcz89_0 hcz89_1); (try clear hcz95_0 hcz95_1 hcz95_2); (try clear hfz11_0 hfz11_1 hfz11_2); (try clear hfz23_0 hfz23_1 hfz23_2); (try clear hfz26_0 hfz26_1 hfz26_2); (try clear hfz29_0 hfz29_1 hfz29_2); (try clear hfz32_0 hfz32_1 hfz32_2); (try clear hfz41_0 hfz41_1 hfz41_2); (try clear hfz53_0 hfz53_1 hfz53_2); (try clear hfz58_0 hfz58_1 hfz58_2); (try clear hfz64_0 hfz64_1 hfz64_2); (try clear hfz89_0 hfz89_1); (try clear hfz95_0 hfz95_1 hfz95_2); (try clear hx567_0); (try clear hx567_1); (try clear hx567_2); (try clear hx569_0); (try clear hx570_0); (try clear hx571_0); (try clear hx579_0); (try clear hx579_1); (try clear hx70_0); (try clear p2); (try clear p5); (try clear p56); (try clear p567); (try clear p569); (try clear p57); (try clear p570); (try clear p571); (try clear p579); (try clear p6); (try clear p64); (try clear p7); (try clear p70); (try clear q5); (try clear q56); (try clear q567); (try clear q569); (try clear q57); (try clear q570); (try clear q571); (try clear q579); (try clear q7); (try clear q70)
                obtain ⟨kq, x141_84, rfl, HA, HJ84, HO_558000, HO_558001, HO_558002, BK556, BK557, BK580, HB⟩ := hcut
                cases kq with
                | zero => exact absurd HA.out (by simp [insolvencylaw0_Parties.j5])
                | succ kj84 =>
                 have H := HA.out
                 clear HA
                 simp only [insolvencylaw0_Parties.j5] at H
                 by_cases c97 : x141_84 = true
                 ·subst c97
                  have H1 : (if x558002_3.length < 8796093022208 then (insolvencylaw0_Parties.l2 kj84 ji5 l3 (l3.length : Int) (wrap64 (x119_3 + 1)) x558000_1 x558001_2 (x558002_3 ++ [(⟨(Int.tmod (wrap64 ((rd_T66 l3 x119_3).f0)) ji5), (Int.tmod (wrap64 ((rd_T66 l3 x119_3).f1)) ji5)⟩ : S38)])) else (none)) = some (r1, r2, r3) := by rw [if_pos rfl] at H; exact H
                  clear H
                  have H := H1
                  clear H1
                  by_cases c98 : x558002_3.length < 8796093022208
                  ·rw [if_pos c98] at H
                   have LMc98 := Aside0.mk c98
                   clear c98
                   obtain ⟨y581, hy581⟩ : ∃ y_ : List (S38), y_ = (x558002_3 ++ [(⟨(Int.tmod (wrap64 ((rd_T66 l3 x119_3).f0)) ji5), (Int.tmod (wrap64 ((rd_T66 l3 x119_3).f1)) ji5)⟩ : S38)]) := ⟨_, rfl⟩
                   replace H : (insolvencylaw0_Parties.l2 kj84 ji5 l3 (l3.length : Int) (wrap64 (x119_3 + 1)) x558000_1 x558001_2 y581) = some (r1, r2, r3) := by first | (rw [hy581]; with_reducible exact H) | (have H2_ := (Option.bind_some _ _).symm.trans H; rw [hy581]; with_reducible exact H2_) | (have H2_ := (Option.bind_some _ _).symm.trans H; with_reducible exact H2_) | with_reducible exact H | (rw [hy581]; exact H) | exact H
                   have Ny581 := Aside0.mk hy581
                   clear hy581
                   have H' := Aside0.mk H
                   clear H
                   have hnb99 := NB557_556.out
                   have hnc99 := NB556_557.out
                   have hnb100 := NB557_580.out
                   have hnc100 := NB580_557.out
                   obtain ⟨hcz101_0, hcz101_1, hcz101_2, hfz101_0, hfz101_1, hfz101_2⟩ := cz3 BK557.out
                   go_wp2_with (first | ((with_reducible refine gate_builtin (b := .append) (xs := #[.tmp 143, .tmp 147]) rfl ?_); at_builtin; refine Kd.R_append k38 (w0 := w) w.heap.size rfl (.tmp 143) (.tmp 147) 24 38 (.agg #[(.int .i64 0), (.int .i64 0)]) 16 rfl Tryd.underlying24 info38 rfl (by decide) (by omega) u558002 x558002_3 (⟨(Int.tmod (wrap64 ((rd_T66 l3 x119_3).f0)) ji5), (Int.tmod (wrap64 ((rd_T66 l3 x119_3).f1)) ji5)⟩ : S38) [.int .i64 (Int.tmod (wrap64 ((rd_T66 l3 x119_3).f0)) ji5), .int .i64 (Int.tmod (wrap64 ((rd_T66 l3 x119_3).f1)) ji5)] (fun _ => True) (fun _ => False) rfl rfl ?aP (fun _ hk => hk.elim) ?aF ?aO ?aB ?aS ?aL ?_; (case aP => exact k38_mkM _ _ _ (⟨(Int.tmod (wrap64 ((rd_T66 l3 x119_3).f0)) ji5), (Int.tmod (wrap64 ((rd_T66 l3 x119_3).f1)) ji5)⟩ : S38)); (case aB => exact (bU HB.out)); (case aF => exact (fun _ _ => trivial)); (case aO => exact (Kd.R_up HO_558002.out)); (case aS => exact (below_size (bU HB.out))); (case aL => have := LMc98.out; omega); intro v582 w102 ho hb hg hat; rw [← Ny581.out] at ho; have n0_ := aM (Kd.R_over' (Kd.R_up HO_558000.out) (Kd.R_typed (Kd.R_up HO_558002.out)) (by decide) hg); have n1_ := aM (Kd.R_over' (Kd.R_up HO_558001.out) (Kd.R_typed (Kd.R_up HO_558002.out)) (by decide) hg); have n2_ := aM (blk_grown (kU BK556.out) hg (Kd.R_ne HO_558002.out BK556.out (by decide))); have n3_ := aM (blk_grown (kU BK557.out) hg (Kd.R_ne HO_558002.out BK557.out (by decide))); have n4_ := aM (blk_grown (kU BK580.out) hg (Kd.R_ne HO_558002.out BK580.out (by decide))); have n5_ := aM (hb); have n6_ := aM (ho); clear HO_558000; clear HO_558001; clear BK556; clear BK557; clear BK580; clear HB; clear HO_558002; have HO_558000 := n0_; have HO_558001 := n1_; have BK556 := n2_; have BK557 := n3_; have BK580 := n4_; have HB := n5_; have HO583 := n6_; clear n0_ n1_ n2_ n3_ n4_ n5_ n6_; clear ho hb hg hat; obtain ⟨Ao103, co103, eo103⟩ := Kd.R_slice HO583.out; subst eo103; obtain ⟨hcz104_0, hcz104_1, hcz104_2, hfz104_0, hfz104_1, hfz104_2⟩ := cz3 BK557.out))
                   go_roundg kj84
                   case measure => have := HK1.out; have := HK2.out; have := HK3.out; have := HJ84.out; omega
                   case rel => exact ⟨(wrap64 (x119_3 + 1)), (y581), (.slice Ao103 y581.length co103), (by first | rfl | (simp; done) | (simp [*]; done)), H', ⟨by have := HK1.out; have := HK2.out; have := HK3.out; have := HJ84.out; omega⟩, ⟨Kd.R_up (Kd.R_mono (Kd.R_far (p := ⟨gb557, 2, none⟩) (Kd.R_types HO_558000.out BK557.out (by decide)) (fun _ hk => hk.2) (.slice Ao103 y581.length co103)) (fun _ hk => trivial))⟩, ⟨Kd.R_up (Kd.R_mono (Kd.R_far (p := ⟨gb557, 2, none⟩) (Kd.R_types HO_558001.out BK557.out (by decide)) (fun _ hk => hk.2) (.slice Ao103 y581.length co103)) (fun _ hk => trivial))⟩, ⟨Kd.R_up (Kd.R_mono (Kd.R_far (p := ⟨gb557, 2, none⟩) (Kd.R_types HO583.out BK557.out (by decide)) (fun _ hk => hk.2) (.slice Ao103 y581.length co103)) (fun _ hk => trivial))⟩, ⟨kP BK556.out⟩, ⟨kP BK557.out⟩, ⟨bU HB.out⟩⟩
                  ·rw [if_neg c98] at H
                   exact absurd H (by simp)
                 ·replace c97 := Bool.eq_false_iff.mpr c97
                  subst c97
                  have H1 : (insolvencylaw0_Parties.l2 kj84 ji5 l3 (l3.length : Int) (wrap64 (x119_3 + 1)) x558000_1 x558001_2 x558002_3) = some (r1, r2, r3) := by rw [if_neg (show ¬ (false = true) by decide)] at H; exact H
                  clear H
                  have H := H1
                  clear H1
                  have H' := Aside0.mk H
                  clear H
                  go_wp2
                  go_roundg kj84
                  case measure => have := HK1.out; have := HK2.out; have := HK3.out; have := HJ84.out; omega
                  case rel => exact ⟨(wrap64 (x119_3 + 1)), (x558002_3), (u558002), (by first | rfl | (simp; done) | (simp [*]; done)), H', ⟨by have := HK1.out; have := HK2.out; have := HK3.out; have := HJ84.out; omega⟩, ⟨Kd.R_up HO_558000.out⟩, ⟨Kd.R_up HO_558001.out⟩, ⟨Kd.R_up HO_558002.out⟩, ⟨kU BK556.out⟩, ⟨kU BK557.out⟩, ⟨bU HB.out⟩⟩
             ·rw [if_neg c83] at H
              exact absurd H (by simp)
            ·rw [if_neg c82] at H
             exact absurd H (by simp)
           ·rw [if_neg c81] at H
            have c81b0 := decide_eq_false c81
            clear c81
            simp only [Option.some.injEq, Prod.mk.injEq] at H
            obtain ⟨rfl, rfl, rfl⟩ := H
            have hnb105 := NB557_556.out
            have hnc105 := NB556_557.out
            obtain ⟨hcz106_0, hcz106_1, hcz106_2, hfz106_0, hfz106_1, hfz106_2⟩ := cz3 BK557.out
            obtain ⟨Ao107, co107, eo107⟩ := Kd.R_slice HO_558000.out
            subst eo107
            obtain ⟨hcz108_0, hcz108_1, hcz108_2, hfz108_0, hfz108_1, hfz108_2⟩ := cz3 BK556.out
            obtain ⟨Ao109, co109, eo109⟩ := Kd.R_slice HO_558001.out
            subst eo109
            obtain ⟨Ao110, co110, eo110⟩ := Kd.R_slice HO_558002.out
            subst eo110
            go_wp2
            refine bodyPost_ret (results_cell_row rfl _ _ gb556 26 #[.slice Ao107 x558000_1.length co107, .slice Ao109 x558001_2.length co109, .slice Ao110 x558002_3.length co110] (0, 0) _ rfl (kP BK556.out) Tryd.underlying26 rfl (by kernel_rfl)) rfl ?_
            exact ⟨_, _, _, by first | rfl | (simp [errW_none, errW_some] <;> rfl) | (simp only [← hji5]; first | rfl | (simp [errW_none, errW_some] <;> rfl)) | (simp [*, errW_none, errW_some] <;> rfl), Kd.R_up (Kd.R_mono (Kd.R_far (p := ⟨gb556, 2, none⟩) (Kd.R_far (p := ⟨gb556, 1, none⟩) (Kd.R_far (p := ⟨gb556, 0, none⟩) (Kd.R_types HO_558000.out BK556.out (by decide)) (fun _ hk => hk.2) (.slice Ao107 x558000_1.length co107)) (fun _ hk => hk.2) (.slice Ao109 x558001_2.length co109)) (fun _ hk => hk.2) (.slice Ao110 x558002_3.length co110)) (fun _ hk => trivial)), Kd.R_up (Kd.R_mono (Kd.R_far (p := ⟨gb556, 2, none⟩) (Kd.R_far (p := ⟨gb556, 1, none⟩) (Kd.R_far (p := ⟨gb556, 0, none⟩) (Kd.R_types HO_558001.out BK556.out (by decide)) (fun _ hk => hk.2) (.slice Ao107 x558000_1.length co107)) (fun _ hk => hk.2) (.slice Ao109 x558001_2.length co109)) (fun _ hk => hk.2) (.slice Ao110 x558002_3.length co110)) (fun _ hk => trivial)), Kd.R_up (Kd.R_mono (Kd.R_far (p := ⟨gb556, 2, none⟩) (Kd.R_far (p := ⟨gb556, 1, none⟩) (Kd.R_far (p := ⟨gb556, 0, none⟩) (Kd.R_types HO_558002.out BK556.out (by decide)) (fun _ hk => hk.2) (.slice Ao107 x558000_1.length co107)) (fun _ hk => hk.2) (.slice Ao109 x558001_2.length co109)) (fun _ hk => hk.2) (.slice Ao110 x558002_3.length co110)) (fun _ hk => trivial)), bU HB.out⟩
  ·rw [if_neg c7] at H
   exact absurd H (by simp)
 ·rw [if_neg c6] at H
  exact absurd H (by simp)

end Go.Proofs.YtjeamaahhpbbkaaDoor.PAll
