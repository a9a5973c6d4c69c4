-- PRINTED by a session's own changed print
import Derived.Test.YtjeamaahhpbbkaaDoorPAllx0
import Derived.Test.YtjeamaahhpbbkaaDoorPAllx15
import Derived.Test.YtjeamaahhpbbkaaDoorPAllx16
import Derived.Test.YtjeamaahhpbbkaaDoorPAllx19
namespace Go.Proofs.YtjeamaahhpbbkaaDoor.PAll
open Go.RowKit Go.Proofs.YtjeamaahhpbbkaaDoorW.PrintWords Go.Proofs.YtjeamaahhpbbkaaDoorW.PrintLast
set_option linter.unusedVariables false
set_option linter.unusedSimpArgs false

/-! ### insolvencylaw8_PartySymmetric: function 8 -/
mutual
def insolvencylaw8_PartySymmetric.l0 : Nat → Int → Int → List Int → List (S36) → List (S38) → Option (Bool)
 | 0, _, _, _, _, _ => none
 | k + 1, x39, x40, x628000, x628001, x628002 => if x40 < x39 then ((party_Connected.f k x628000 x628001 x628002 x40 x40).bind fun bt628 => (if bt628.2 = 0 then (insolvencylaw8_PartySymmetric.j1 k x40 x39 x40 (!bt628.1) x628000 x628001 x628002) else (insolvencylaw8_PartySymmetric.j1 k x40 x39 x40 true x628000 x628001 x628002))) else (insolvencylaw8_PartySymmetric.l4 k x628002 (x628002.length : Int) 0 x628000 x628001 x628002)
def insolvencylaw8_PartySymmetric.j1 : Nat → Int → Int → Int → Bool → List Int → List (S36) → List (S38) → Option (Bool)
 | 0, _, _, _, _, _, _, _ => none
 | k + 1, x10, x39, x40, x55, x628000, x628001, x628002 => if x55 = true then (some false) else (insolvencylaw8_PartySymmetric.l1 k x10 x39 x40 (x628000.length : Int) 0 x628000 x628001 x628002)
def insolvencylaw8_PartySymmetric.l1 : Nat → Int → Int → Int → Int → Int → List Int → List (S36) → List (S38) → Option (Bool)
 | 0, _, _, _, _, _, _, _, _ => none
 | k + 1, x10, x39, x40, x58, x59, x628000, x628001, x628002 => if x59 < x58 then ((party_Connected.f k x628000 x628001 x628002 x10 x59).bind fun bt630 => ((party_Connected.f k x628000 x628001 x628002 x59 x10).bind fun bt632 => (if (bt630.1 != bt632.1) = true then (some false) else (insolvencylaw8_PartySymmetric.l1 k x10 x39 x40 x58 (wrap64 (x59 + 1)) x628000 x628001 x628002)))) else ((party_Controlled.f k x628000 x628001 x628002 x10).bind fun bt634 => (insolvencylaw8_PartySymmetric.l2 k x10 bt634.1 x39 x40 bt634.1 (bt634.1.length : Int) 0 x628000 x628001 x628002))
def insolvencylaw8_PartySymmetric.l2 : Nat → Int → List Int → Int → Int → List Int → Int → Int → List Int → List (S36) → List (S38) → Option (Bool)
 | 0, _, _, _, _, _, _, _, _, _, _ => none
 | k + 1, x10, x18, x39, x40, x86, x87, x88, x628000, x628001, x628002 => if x88 < x87 then (if 0 ≤ x88 then (if x88 < (x86.length : Int) then (insolvencylaw8_PartySymmetric.l3 k x10 x18 (rd x86 x88) x39 x40 x86 x87 x88 x18 (x18.length : Int) 0 x628000 x628001 x628002) else (none)) else (none)) else (insolvencylaw8_PartySymmetric.l0 k x39 (wrap64 (x40 + 1)) x628000 x628001 x628002)
def insolvencylaw8_PartySymmetric.l3 : Nat → Int → List Int → Int → Int → Int → List Int → Int → Int → List Int → Int → Int → List Int → List (S36) → List (S38) → Option (Bool)
 | 0, _, _, _, _, _, _, _, _, _, _, _, _, _, _ => none
 | k + 1, x10, x18, x21, x39, x40, x86, x87, x88, x92, x93, x94, x628000, x628001, x628002 => if x94 < x93 then (if 0 ≤ x94 then (if x94 < (x92.length : Int) then ((party_Connected.f k x628000 x628001 x628002 x21 (rd x92 x94)).bind fun bt640 => ((party_Connected.f k x628000 x628001 x628002 x10 (rd x92 x94)).bind fun bt642 => (if bt640.1 = true then (if bt642.1 = true then (insolvencylaw8_PartySymmetric.l3 k x10 x18 x21 x39 x40 x86 x87 x88 x92 x93 (wrap64 (x94 + 1)) x628000 x628001 x628002) else (some false)) else (some false)))) else (none)) else (none)) else (insolvencylaw8_PartySymmetric.l2 k x10 x18 x39 x40 x86 x87 (wrap64 (x88 + 1)) x628000 x628001 x628002)
def insolvencylaw8_PartySymmetric.l4 : Nat → List (S38) → Int → Int → List Int → List (S36) → List (S38) → Option (Bool)
 | 0, _, _, _, _, _, _ => none
 | k + 1, x122, x123, x124, x628000, x628001, x628002 => if x124 < x123 then (if 0 ≤ x124 then (if x124 < (x122.length : Int) then ((party_Connected.f k x628000 x628001 x628002 ((rd_T38 x122 x124).f0) ((rd_T38 x122 x124).f1)).bind fun bt646 => (if bt646.1 = true then (insolvencylaw8_PartySymmetric.l4 k x122 x123 (wrap64 (x124 + 1)) x628000 x628001 x628002) else (some false))) else (none)) else (none)) else ((insolvencylaw8_awake.f k).bind fun t648 => (some t648))
end
def insolvencylaw8_PartySymmetric.f (k : Nat) (a0 : Int) (a1 : Int) (l2 : List (S65)) (l3 : List (S66)) : Option (Bool) := (insolvencylaw0_Parties.f k a0 a1 l2 l3).bind fun bt618 => (insolvencylaw8_PartySymmetric.l0 k (bt618.1.length : Int) 0 bt618.1 bt618.2.1 bt618.2.2)
set_option maxHeartbeats 8000000 in
set_option maxRecDepth 100000 in
theorem insolvencylaw8_PartySymmetric.calls (k : Nat) (a0 : Int) (a1 : Int) (A2 : Option Addr) (c2 : Nat) (l2 : List (S65)) (A3 : Option Addr) (c3 : Nat) (l3 : List (S66)) (r : Bool) (w : World) (hr2 : Kd.C k65 w A2 l2.length l2) (hc2 : l2.length ≤ c2) (hr3 : Kd.C k66 w A3 l3.length l3) (hc3 : l3.length ≤ c3) (h : insolvencylaw8_PartySymmetric.f k a0 a1 l2 l3 = some r) :
  Calls Tryd.prog 8 #[.int .u8 a0, .int .u16 a1, .slice A2 l2.length c2, .slice A3 l3.length c3] w fun e w' => e = .returned (.bool r) ∧ Below w.heap.size w w' := by
 have hu26 := Tryd.underlying26
 have hu38 := Tryd.underlying38
 have HR2 := Aside0.mk hr2
 have HC2 := Aside0.mk hc2
 clear hr2 hc2
 have HR3 := Aside0.mk hr3
 have HC3 := Aside0.mk hc3
 clear hr3 hc3
 have HB := aM (Below.refl w.heap.size w)
 have H : ((insolvencylaw0_Parties.f k a0 a1 l2 l3).bind fun bt618 => (insolvencylaw8_PartySymmetric.l0 k (bt618.1.length : Int) 0 bt618.1 bt618.2.1 bt618.2.2)) = some r := h
 clear h
 replace H := bE H
 obtain ⟨⟨t618, t621, t624⟩, A50, H⟩ := H
 replace H : (insolvencylaw8_PartySymmetric.l0 k (t618.length : Int) 0 t618 t621 t624) = some r := H
 have A5 := Aside0.mk A50
 clear A50
 have H' := Aside0.mk H
 clear H
 go_enter Tryd.func8, Tryd.ntmps8
 go_wp2_with (first | ((with_reducible refine gate_callee (f := 14) rfl ?_); refine goesLq (some 36) rfl rfl Tryd.func14 #[.int .u8 a0, .int .u16 a1, .slice A2 l2.length c2, .slice A3 l3.length c3] rfl ?_; (with_reducible refine (insolvencylaw0_Parties.calls k a0 a1 _ _ l2 _ _ l3 t618 t621 t624 _ ?side1 ?side2 ?side3 ?side4 A5.out).mono ?_); (case side1 => repeat (first | exact HR2.out | (with_reducible refine Kd.C_alloc ?_ _) | (with_reducible refine Kd.C_drewN ?_ _) | (with_reducible refine Kd.C_drew ?_))); (case side2 => exact HC2.out); (case side3 => repeat (first | exact HR3.out | (with_reducible refine Kd.C_alloc ?_ _) | (with_reducible refine Kd.C_drewN ?_ _) | (with_reducible refine Kd.C_drew ?_))); (case side4 => exact HC3.out); rintro e w6 ⟨v619, v622, v625, rfl, ho0, ho1, ho2, hb⟩; refine ⟨_, rfl, ?_⟩; have n0_ := aM (Kd.R_lower ho0 (below_size (bU HB.out))); have n1_ := aM (Kd.R_lower ho1 (below_size (bU HB.out))); have n2_ := aM (Kd.R_lower ho2 (below_size (bU HB.out))); have n3_ := aM (below_step (bU HB.out) hb); clear HB; have HO620 := n0_; have HO623 := n1_; have HO626 := n2_; have HB := n3_; clear n0_ n1_ n2_ n3_; (try clear hb); (try clear hb2); (try clear hk); (try clear hi); (try clear ho0); (try clear ho1); (try clear ho2)) | ((with_reducible refine gate_dst (N := 9) rfl ?_); refine box_event ?hg (N := 9) ?hd (cs := #[.slice none 0 0, .slice none 0 0, .slice none 0 0]) (t := 26) ?hr ?_; (case hd => rfl); (case hg => rfl); (case hr => first | (go_simp; done) | (go_simp; rfl)); intro gb627 hg w7 hbox hb; have n0_ := aM (Kd.R_below (Kd.R_up HO620.out) hb); have n1_ := aM (Kd.R_below (Kd.R_up HO623.out) hb); have n2_ := aM (Kd.R_below (Kd.R_up HO626.out) hb); have n3_ := aM (below_step (bU HB.out) hb); have n4_ := aM (hbox); have n5_ := aM ((by rw [hg]; exact (below_size (bU HB.out)) : w.heap.size ≤ gb627)); have n6_ := aM ((by rw [hg]; exact (below_size (bU HB.out)) : w.heap.size ≤ gb627)); clear HO620; clear HO623; clear HO626; clear HB; have HO620 := n0_; have HO623 := n1_; have HO626 := n2_; have HB := n3_; have BK627 := n4_; have GW627 := n5_; have GE627 := n6_; clear n0_ n1_ n2_ n3_ n4_ n5_ n6_; clear hb hbox hg; obtain ⟨Ao8, co8, eo8⟩ := Kd.R_slice HO620.out; subst eo8; obtain ⟨hcz9_0, hcz9_1, hcz9_2, hfz9_0, hfz9_1, hfz9_2⟩ := cz3 BK627.out; obtain ⟨Ao10, co10, eo10⟩ := Kd.R_slice HO623.out; subst eo10; obtain ⟨Ao11, co11, eo11⟩ := Kd.R_slice HO626.out; subst eo11))
 go_loopg [40] k (fun kq v40 w' => ∃ (x40_1 : Int), v40 = .int .i64 x40_1 ∧ Aside0 (insolvencylaw8_PartySymmetric.l0 kq (t618.length : Int) x40_1 t618 t621 t624 = some r) ∧ Aside0 (kq ≤ k) ∧ Aside0 (Kd.R (Kd.int .i64) 3 w' w.heap.size (fun _ => True) (.slice Ao8 t618.length co8) t618) ∧ Aside0 (Kd.R k36 36 w' w.heap.size (fun _ => True) (.slice Ao10 t621.length co10) t621) ∧ Aside0 (Kd.R k38 38 w' w.heap.size (fun _ => True) (.slice Ao11 t624.length co11) t624) ∧ Aside0 (w'.heap[gb627]? = some (.cells #[(.slice Ao8 t618.length co8), (.slice Ao10 t621.length co10), (.slice Ao11 t624.length co11)] 26 (0, 0))) ∧ Aside0 (Below w.heap.size w w'))
 case atStart => exact ⟨(0), (by first | rfl | (simp; done) | (simp [*]; done)), H', ⟨Nat.le_refl _⟩, ⟨Kd.R_up (Kd.R_mono (Kd.R_far (p := ⟨gb627, 2, none⟩) (Kd.R_far (p := ⟨gb627, 1, none⟩) (Kd.R_far (p := ⟨gb627, 0, none⟩) (Kd.R_types HO620.out BK627.out (by decide)) (fun _ hk => hk.2) (.slice Ao8 t618.length co8)) (fun _ hk => hk.2) (.slice Ao10 t621.length co10)) (fun _ hk => hk.2) (.slice Ao11 t624.length co11)) (fun _ hk => trivial))⟩, ⟨Kd.R_up (Kd.R_mono (Kd.R_far (p := ⟨gb627, 2, none⟩) (Kd.R_far (p := ⟨gb627, 1, none⟩) (Kd.R_far (p := ⟨gb627, 0, none⟩) (Kd.R_types HO623.out BK627.out (by decide)) (fun _ hk => hk.2) (.slice Ao8 t618.length co8)) (fun _ hk => hk.2) (.slice Ao10 t621.length co10)) (fun _ hk => hk.2) (.slice Ao11 t624.length co11)) (fun _ hk => trivial))⟩, ⟨Kd.R_up (Kd.R_mono (Kd.R_far (p := ⟨gb627, 2, none⟩) (Kd.R_far (p := ⟨gb627, 1, none⟩) (Kd.R_far (p := ⟨gb627, 0, none⟩) (Kd.R_types HO626.out BK627.out (by decide)) (fun _ hk => hk.2) (.slice Ao8 t618.length co8)) (fun _ hk => hk.2) (.slice Ao10 t621.length co10)) (fun _ hk => hk.2) (.slice Ao11 t624.length co11)) (fun _ hk => trivial))⟩, ⟨kP BK627.out⟩, ⟨bU HB.out⟩⟩
 case round =>
  clear H'
  (try clear c1); (try clear c2); (try clear p2); (try clear c3); (try clear c8); (try clear hcz9_0 hcz9_1 hcz9_2); (try clear hfz9_0 hfz9_1 hfz9_2)
  obtain ⟨x40_1, rfl, HA, HK1, HO_628000, HO_628001, HO_628002, BK627, HB⟩ := hrel
  cases gk with
  | zero => exact absurd HA.out (by simp [insolvencylaw8_PartySymmetric.l0])
  | succ k1 =>
   have H := HA.out
   clear HA
   simp only [insolvencylaw8_PartySymmetric.l0] at H
   by_cases c12 : x40_1 < (t618.length : Int)
   ·rw [if_pos c12] at H
    have c12b0 := decide_eq_true c12
    clear c12
    replace H := bE H
    obtain ⟨⟨t628, t629⟩, A130, H⟩ := H
    replace H : (if t629 = 0 then (insolvencylaw8_PartySymmetric.j1 k1 x40_1 (t618.length : Int) x40_1 (!t628) t618 t621 t624) else (insolvencylaw8_PartySymmetric.j1 k1 x40_1 (t618.length : Int) x40_1 true t618 t621 t624)) = some r := H
    have A13 := Aside0.mk A130
    clear A130
    have HC14 := Aside0.mk H
    clear H
    obtain ⟨hcz15_0, hcz15_1, hcz15_2, hfz15_0, hfz15_1, hfz15_2⟩ := cz3 BK627.out
    go_upto_region 6 with (first | ((with_reducible refine gate_callee (f := 19) rfl ?_); refine goesLq (some 47) rfl rfl Tryd.func19 #[.agg #[.slice Ao8 t618.length co8, .slice Ao10 t621.length co10, .slice Ao11 t624.length co11], .int .i64 x40_1, .int .i64 x40_1] rfl ?_; (with_reducible refine (party_Connected.calls k1 _ _ t618 _ _ t621 _ _ t624 x40_1 x40_1 t628 t629 _ ?side1 ?side2 ?side3 ?side4 ?side5 ?side6 A13.out).mono ?_); (case side1 => exact Kd.C_up (Kd.R_reads' HO_628000.out).2.2); (case side2 => exact (Kd.R_reads' HO_628000.out).2.1); (case side3 => exact Kd.C_up (Kd.R_reads' HO_628001.out).2.2); (case side4 => exact (Kd.R_reads' HO_628001.out).2.1); (case side5 => exact Kd.C_up (Kd.R_reads' HO_628002.out).2.2); (case side6 => exact (Kd.R_reads' HO_628002.out).2.1); rintro e w16 ⟨rfl, hb⟩; refine ⟨_, rfl, ?_⟩; have n0_ := aM (Kd.R_below (Kd.R_up HO_628000.out) hb); have n1_ := aM (Kd.R_below (Kd.R_up HO_628001.out) hb); have n2_ := aM (Kd.R_below (Kd.R_up HO_628002.out) hb); have n3_ := aM (blk_below (kU BK627.out) hb); have n4_ := aM (below_step (bU HB.out) hb); clear HO_628000; clear HO_628001; clear HO_628002; clear BK627; clear HB; have HO_628000 := n0_; have HO_628001 := n1_; have HO_628002 := n2_; have BK627 := n3_; have HB := n4_; clear n0_ n1_ n2_ n3_ n4_; (try clear hb); (try clear hb2); (try clear hk); (try clear hi)))
    (try simp only [Act.put, List.setIfInBounds_toArray, List.set_cons_zero, List.set_cons_succ])
    go_cut [55] (fun v55 wc => ∃ (kq : Nat) (x55_13 : Bool), v55 = .bool x55_13 ∧ Aside0 (insolvencylaw8_PartySymmetric.j1 kq x40_1 (t618.length : Int) x40_1 x55_13 t618 t621 t624 = some r) ∧ Aside0 (kq ≤ k1) ∧ Aside0 (Kd.R (Kd.int .i64) 3 wc w.heap.size (fun _ => True) (.slice Ao8 t618.length co8) t618) ∧ Aside0 (Kd.R k36 36 wc w.heap.size (fun _ => True) (.slice Ao10 t621.length co10) t621) ∧ Aside0 (Kd.R k38 38 wc w.heap.size (fun _ => True) (.slice Ao11 t624.length co11) t624) ∧ Aside0 (wc.heap[gb627]? = some (.cells #[(.slice Ao8 t618.length co8), (.slice Ao10 t621.length co10), (.slice Ao11 t624.length co11)] 26 (0, 0))) ∧ Aside0 (Below w.heap.size w wc))
    case first =>
     have H := HC14.out
     clear HC14
     by_cases c17 : t629 = 0
     ·rw [if_pos c17] at H
      have c17b0 : (t629 == 0) = true := beq_iff_eq.mpr c17
      have c17b1 : (t629 != 0) = false := bne_eq_false_iff_eq.mpr c17
      clear c17
      (first | rw [c17b0] | (simp only [i64_w, i32_w]; rw [c17b0]) | rw [c17b1] | skip)
      have H' := Aside0.mk H
      clear H
      go_wp2
      go_meet
      case rel => exact ⟨_, (!t628), (by first | rfl | (simp; done) | (simp [*]; done)), H', ⟨by have := HK1.out; first | omega | exact Nat.le_refl _⟩, ⟨Kd.R_up HO_628000.out⟩, ⟨Kd.R_up HO_628001.out⟩, ⟨Kd.R_up HO_628002.out⟩, ⟨kU BK627.out⟩, ⟨bU HB.out⟩⟩
     ·rw [if_neg c17] at H
      have c17b0 : (t629 == 0) = false := beq_eq_false_iff_ne.mpr c17
      have c17b1 : (t629 != 0) = true := bne_iff_ne.mpr c17
      (first | rw [c17b0] | (simp only [i64_w, i32_w]; rw [c17b0]) | rw [c17b1] | skip)
      have H' := Aside0.mk H
      clear H
      go_wp2
      go_meet
      case rel => exact ⟨_, (true), (by first | rfl | (simp; done) | (simp [*]; done)), H', ⟨by have := HK1.out; first | omega | exact Nat.le_refl _⟩, ⟨Kd.R_up HO_628000.out⟩, ⟨Kd.R_up HO_628001.out⟩, ⟨Kd.R_up HO_628002.out⟩, ⟨kU BK627.out⟩, ⟨bU HB.out⟩⟩
    case rest =>
     clear HC14
     (try clear c1); (try clear c2); (try clear p2); (try clear c3); (try clear c8); (try clear c12); (try clear c12b0); (try clear c14); (try clear c17); (try clear c17b0); (try clear c17b1); (try clear hcz15_0 hcz15_1 hcz15_2); (try clear hcz9_0 hcz9_1 hcz9_2); (try clear hfz15_0 hfz15_1 hfz15_2); (try clear hfz9_0 hfz9_1 hfz9_2); (try clear p2)
     obtain ⟨kq, x55_13, rfl, HA, HJ13, HO_628000, HO_628001, HO_628002, BK627, HB⟩ := hcut
     cases kq with
     | zero => exact absurd HA.out (by simp [insolvencylaw8_PartySymmetric.j1])
     | succ kj13 =>
      have H := HA.out
      clear HA
      simp only [insolvencylaw8_PartySymmetric.j1] at H
      by_cases c18 : x55_13 = true
      ·subst c18
       have H1 : (some false) = some r := by rw [if_pos rfl] at H; exact H
       clear H
       have H := H1
       clear H1
       obtain rfl := Option.some.inj H
       go_wp2
       go_ret
       exact ⟨by first | rfl | (simp [errW_none, errW_some] <;> rfl) | (simp [*, errW_none, errW_some] <;> rfl), bU HB.out⟩
      ·replace c18 := Bool.eq_false_iff.mpr c18
       subst c18
       have H1 : (insolvencylaw8_PartySymmetric.l1 kj13 x40_1 (t618.length : Int) x40_1 (t618.length : Int) 0 t618 t621 t624) = some r := by rw [if_neg (show ¬ (false = true) by decide)] at H; exact H
       clear H
       have H := H1
       clear H1
       have H' := Aside0.mk H
       clear H
       obtain ⟨hcz19_0, hcz19_1, hcz19_2, hfz19_0, hfz19_1, hfz19_2⟩ := cz3 BK627.out
       go_wp2
       go_loopg [59] kj13 (fun kq v59 w' => ∃ (x59_3 : Int), v59 = .int .i64 x59_3 ∧ Aside0 (insolvencylaw8_PartySymmetric.l1 kq x40_1 (t618.length : Int) x40_1 (t618.length : Int) x59_3 t618 t621 t624 = some r) ∧ Aside0 (kq ≤ kj13) ∧ Aside0 (Kd.R (Kd.int .i64) 3 w' w.heap.size (fun _ => True) (.slice Ao8 t618.length co8) t618) ∧ Aside0 (Kd.R k36 36 w' w.heap.size (fun _ => True) (.slice Ao10 t621.length co10) t621) ∧ Aside0 (Kd.R k38 38 w' w.heap.size (fun _ => True) (.slice Ao11 t624.length co11) t624) ∧ Aside0 (w'.heap[gb627]? = some (.cells #[(.slice Ao8 t618.length co8), (.slice Ao10 t621.length co10), (.slice Ao11 t624.length co11)] 26 (0, 0))) ∧ Aside0 (Below w.heap.size w w'))
       case atStart => exact ⟨(0), (by first | rfl | (simp; done) | (simp [*]; done)), H', ⟨Nat.le_refl _⟩, ⟨Kd.R_up HO_628000.out⟩, ⟨Kd.R_up HO_628001.out⟩, ⟨Kd.R_up HO_628002.out⟩, ⟨kU BK627.out⟩, ⟨bU HB.out⟩⟩
       case round =>
        clear H'
        (try clear c1); (try clear c2); (try clear p2); (try clear c3); (try clear c8); (try clear c12); (try clear c12b0); (try clear c14); (try clear c17); (try clear c17b0); (try clear c17b1); (try clear c18); (try clear c19); (try clear hcz15_0 hcz15_1 hcz15_2); (try clear hcz19_0 hcz19_1 hcz19_2); (try clear hcz9_0 hcz9_1 hcz9_2); (try clear hfz15_0 hfz15_1 hfz15_2); (try clear hfz19_0 hfz19_1 hfz19_2); (try clear hfz9_0 hfz9_1 hfz9_2); (try clear p2)
        obtain ⟨x59_3, rfl, HA, HK3, HO_628000, HO_628001, HO_628002, BK627, HB⟩ := hrel
        cases gk with
        | zero => exact absurd HA.out (by simp [insolvencylaw8_PartySymmetric.l1])
        | succ k3 =>
         have H := HA.out
         clear HA
         simp only [insolvencylaw8_PartySymmetric.l1] at H
         by_cases c20 : x59_3 < (t618.length : Int)
         ·rw [if_pos c20] at H
          have c20b0 := decide_eq_true c20
          clear c20
          replace H := bE H
          obtain ⟨⟨t630, t631⟩, A210, H⟩ := H
          replace H : ((party_Connected.f k3 t618 t621 t624 x59_3 x40_1).bind fun bt632 => (if (t630 != bt632.1) = true then (some false) else (insolvencylaw8_PartySymmetric.l1 k3 x40_1 (t618.length : Int) x40_1 (t618.length : Int) (wrap64 (x59_3 + 1)) t618 t621 t624))) = some r := H
          have A21 := Aside0.mk A210
          clear A210
          replace H := bE H
          obtain ⟨⟨t632, t633⟩, A220, H⟩ := H
          replace H : (if (t630 != t632) = true then (some false) else (insolvencylaw8_PartySymmetric.l1 k3 x40_1 (t618.length : Int) x40_1 (t618.length : Int) (wrap64 (x59_3 + 1)) t618 t621 t624)) = some r := H
          have A22 := Aside0.mk A220
          clear A220
          by_cases c23 : (t630 != t632) = true
          ·rw [if_pos c23] at H
           have c23b0 : (t630 != t632) = true := c23
           (try (have c23b1 : decide (t630 = t632) = false := by simpa using c23))
           (try (have c23b2 : (t630 == t632) = false := by simpa using c23))
           (try (have c23b3 : ¬ (t630 = t632) := by simpa using c23))
           clear c23
           obtain rfl := Option.some.inj H
           obtain ⟨hcz24_0, hcz24_1, hcz24_2, hfz24_0, hfz24_1, hfz24_2⟩ := cz3 BK627.out
           go_wp2_with (first | ((with_reducible refine gate_callee (f := 19) rfl ?_); refine goesLq (some 66) rfl rfl Tryd.func19 #[.agg #[.slice Ao8 t618.length co8, .slice Ao10 t621.length co10, .slice Ao11 t624.length co11], .int .i64 x40_1, .int .i64 x59_3] rfl ?_; (with_reducible refine (party_Connected.calls k3 _ _ t618 _ _ t621 _ _ t624 x40_1 x59_3 t630 t631 _ ?side1 ?side2 ?side3 ?side4 ?side5 ?side6 A21.out).mono ?_); (case side1 => exact Kd.C_up (Kd.R_reads' HO_628000.out).2.2); (case side2 => exact (Kd.R_reads' HO_628000.out).2.1); (case side3 => exact Kd.C_up (Kd.R_reads' HO_628001.out).2.2); (case side4 => exact (Kd.R_reads' HO_628001.out).2.1); (case side5 => exact Kd.C_up (Kd.R_reads' HO_628002.out).2.2); (case side6 => exact (Kd.R_reads' HO_628002.out).2.1); rintro e w25 ⟨rfl, hb⟩; refine ⟨_, rfl, ?_⟩; have n0_ := aM (Kd.R_below (Kd.R_up HO_628000.out) hb); have n1_ := aM (Kd.R_below (Kd.R_up HO_628001.out) hb); have n2_ := aM (Kd.R_below (Kd.R_up HO_628002.out) hb); have n3_ := aM (blk_below (kU BK627.out) hb); have n4_ := aM (below_step (bU HB.out) hb); clear HO_628000; clear HO_628001; clear HO_628002; clear BK627; clear HB; have HO_628000 := n0_; have HO_628001 := n1_; have HO_628002 := n2_; have BK627 := n3_; have HB := n4_; clear n0_ n1_ n2_ n3_ n4_; (try clear hb); (try clear hb2); (try clear hk); (try clear hi); obtain ⟨hcz26_0, hcz26_1, hcz26_2, hfz26_0, hfz26_1, hfz26_2⟩ := cz3 BK627.out) | ((with_reducible refine gate_callee (f := 19) rfl ?_); refine goesLq (some 73) rfl rfl Tryd.func19 #[.agg #[.slice Ao8 t618.length co8, .slice Ao10 t621.length co10, .slice Ao11 t624.length co11], .int .i64 x59_3, .int .i64 x40_1] rfl ?_; (with_reducible refine (party_Connected.calls k3 _ _ t618 _ _ t621 _ _ t624 x59_3 x40_1 t632 t633 _ ?side1 ?side2 ?side3 ?side4 ?side5 ?side6 A22.out).mono ?_); (case side1 => exact Kd.C_up (Kd.R_reads' HO_628000.out).2.2); (case side2 => exact (Kd.R_reads' HO_628000.out).2.1); (case side3 => exact Kd.C_up (Kd.R_reads' HO_628001.out).2.2); (case side4 => exact (Kd.R_reads' HO_628001.out).2.1); (case side5 => exact Kd.C_up (Kd.R_reads' HO_628002.out).2.2); (case side6 => exact (Kd.R_reads' HO_628002.out).2.1); rintro e w27 ⟨rfl, hb⟩; refine ⟨_, rfl, ?_⟩; have n0_ := aM (Kd.R_below (Kd.R_up HO_628000.out) hb); have n1_ := aM (Kd.R_below (Kd.R_up HO_628001.out) hb); have n2_ := aM (Kd.R_below (Kd.R_up HO_628002.out) hb); have n3_ := aM (blk_below (kU BK627.out) hb); have n4_ := aM (below_step (bU HB.out) hb); clear HO_628000; clear HO_628001; clear HO_628002; clear BK627; clear HB; have HO_628000 := n0_; have HO_628001 := n1_; have HO_628002 := n2_; have BK627 := n3_; have HB := n4_; clear n0_ n1_ n2_ n3_ n4_; (try clear hb); (try clear hb2); (try clear hk); (try clear hi)))
           go_ret
           exact ⟨by first | rfl | (simp [errW_none, errW_some] <;> rfl) | (simp [*, errW_none, errW_some] <;> rfl), bU HB.out⟩
          ·rw [if_neg c23] at H
           have c23b0 : (t630 != t632) = false := by simpa using c23
           (try (have c23b1 : decide (t630 = t632) = true := by simpa using c23))
           (try (have c23b2 : (t630 == t632) = true := by simpa using c23))
           clear c23
           have H' := Aside0.mk H
           clear H
           obtain ⟨hcz28_0, hcz28_1, hcz28_2, hfz28_0, hfz28_1, hfz28_2⟩ := cz3 BK627.out
           go_wp2_with (first | ((with_reducible refine gate_callee (f := 19) rfl ?_); refine goesLq (some 66) rfl rfl Tryd.func19 #[.agg #[.slice Ao8 t618.length co8, .slice Ao10 t621.length co10, .slice Ao11 t624.length co11], .int .i64 x40_1, .int .i64 x59_3] rfl ?_; (with_reducible refine (party_Connected.calls k3 _ _ t618 _ _ t621 _ _ t624 x40_1 x59_3 t630 t631 _ ?side1 ?side2 ?side3 ?side4 ?side5 ?side6 A21.out).mono ?_); (case side1 => exact Kd.C_up (Kd.R_reads' HO_628000.out).2.2); (case side2 => exact (Kd.R_reads' HO_628000.out).2.1); (case side3 => exact Kd.C_up (Kd.R_reads' HO_628001.out).2.2); (case side4 => exact (Kd.R_reads' HO_628001.out).2.1); (case side5 => exact Kd.C_up (Kd.R_reads' HO_628002.out).2.2); (case side6 => exact (Kd.R_reads' HO_628002.out).2.1); rintro e w29 ⟨rfl, hb⟩; refine ⟨_, rfl, ?_⟩; have n0_ := aM (Kd.R_below (Kd.R_up HO_628000.out) hb); have n1_ := aM (Kd.R_below (Kd.R_up HO_628001.out) hb); have n2_ := aM (Kd.R_below (Kd.R_up HO_628002.out) hb); have n3_ := aM (blk_below (kU BK627.out) hb); have n4_ := aM (below_step (bU HB.out) hb); clear HO_628000; clear HO_628001; clear HO_628002; clear BK627; clear HB; have HO_628000 := n0_; have HO_628001 := n1_; have HO_628002 := n2_; have BK627 := n3_; have HB := n4_; clear n0_ n1_ n2_ n3_ n4_; (try clear hb); (try clear hb2); (try clear hk); (try clear hi); obtain ⟨hcz30_0, hcz30_1, hcz30_2, hfz30_0, hfz30_1, hfz30_2⟩ := cz3 BK627.out) | ((with_reducible refine gate_callee (f := 19) rfl ?_); refine goesLq (some 73) rfl rfl Tryd.func19 #[.agg #[.slice Ao8 t618.length co8, .slice Ao10 t621.length co10, .slice Ao11 t624.length co11], .int .i64 x59_3, .int .i64 x40_1] rfl ?_; (with_reducible refine (party_Connected.calls k3 _ _ t618 _ _ t621 _ _ t624 x59_3 x40_1 t632 t633 _ ?side1 ?side2 ?side3 ?side4 ?side5 ?side6 A22.out).mono ?_); (case side1 => exact Kd.C_up (Kd.R_reads' HO_628000.out).2.2); (case side2 => exact (Kd.R_reads' HO_628000.out).2.1); (case side3 => exact Kd.C_up (Kd.R_reads' HO_628001.out).2.2); (case side4 => exact (Kd.R_reads' HO_628001.out).2.1); (case side5 => exact Kd.C_up (Kd.R_reads' HO_628002.out).2.2); (case side6 => exact (Kd.R_reads' HO_628002.out).2.1); rintro e w31 ⟨rfl, hb⟩; refine ⟨_, rfl, ?_⟩; have n0_ := aM (Kd.R_below (Kd.R_up HO_628000.out) hb); have n1_ := aM (Kd.R_below (Kd.R_up HO_628001.out) hb); have n2_ := aM (Kd.R_below (Kd.R_up HO_628002.out) hb); have n3_ := aM (blk_below (kU BK627.out) hb); have n4_ := aM (below_step (bU HB.out) hb); clear HO_628000; clear HO_628001; clear HO_628002; clear BK627; clear HB; have HO_628000 := n0_; have HO_628001 := n1_; have HO_628002 := n2_; have BK627 := n3_; have HB := n4_; clear n0_ n1_ n2_ n3_ n4_; (try clear hb); (try clear hb2); (try clear hk); (try clear hi)))
           go_roundg k3
           case measure => have := HK1.out; have := HJ13.out; have := HK3.out; omega
           case rel => exact ⟨(wrap64 (x59_3 + 1)), (by first | rfl | (simp; done) | (simp [*]; done)), H', ⟨by have := HK1.out; have := HJ13.out; have := HK3.out; omega⟩, ⟨Kd.R_up HO_628000.out⟩, ⟨Kd.R_up HO_628001.out⟩, ⟨Kd.R_up HO_628002.out⟩, ⟨kU BK627.out⟩, ⟨bU HB.out⟩⟩
         ·rw [if_neg c20] at H
          have c20b0 := decide_eq_false c20
          clear c20
          replace H := bE H
          obtain ⟨⟨t634, t637⟩, A320, H⟩ := H
          replace H : (insolvencylaw8_PartySymmetric.l2 k3 x40_1 t634 (t618.length : Int) x40_1 t634 (t634.length : Int) 0 t618 t621 t624) = some r := H
          have A32 := Aside0.mk A320
          clear A320
          have H' := Aside0.mk H
          clear H
          obtain ⟨hcz33_0, hcz33_1, hcz33_2, hfz33_0, hfz33_1, hfz33_2⟩ := cz3 BK627.out
          go_wp2_with (first | ((with_reducible refine gate_callee (f := 15) rfl ?_); refine goesLq (some 83) rfl rfl Tryd.func15 #[.agg #[.slice Ao8 t618.length co8, .slice Ao10 t621.length co10, .slice Ao11 t624.length co11], .int .i64 x40_1] rfl ?_; (with_reducible refine (party_Controlled.calls k3 _ _ t618 _ _ t621 _ _ t624 x40_1 t634 t637 _ ?side1 ?side2 ?side3 ?side4 ?side5 ?side6 A32.out).mono ?_); (case side1 => exact Kd.C_up (Kd.R_reads' HO_628000.out).2.2); (case side2 => exact (Kd.R_reads' HO_628000.out).2.1); (case side3 => exact Kd.C_up (Kd.R_reads' HO_628001.out).2.2); (case side4 => exact (Kd.R_reads' HO_628001.out).2.1); (case side5 => exact Kd.C_up (Kd.R_reads' HO_628002.out).2.2); (case side6 => exact (Kd.R_reads' HO_628002.out).2.1); rintro e w34 ⟨v635, rfl, ho0, hb⟩; refine ⟨_, rfl, ?_⟩; have n0_ := aM (Kd.R_elder' (Kd.R_up HO_628000.out) (Kd.R_base ho0) hb); have n1_ := aM (Kd.R_below (Kd.R_up HO_628001.out) hb); have n2_ := aM (Kd.R_below (Kd.R_up HO_628002.out) hb); have n3_ := aM (Kd.R_lower (Kd.R_new' ho0 (Kd.R_lt (Kd.R_up HO_628000.out))) (below_size (bU HB.out))); have n4_ := aM (blk_below (kU BK627.out) hb); have n5_ := aM (below_step (bU HB.out) hb); clear HO_628000; clear HO_628001; clear HO_628002; clear BK627; clear HB; have HO_628000 := n0_; have HO_628001 := n1_; have HO_628002 := n2_; have HO636 := n3_; have BK627 := n4_; have HB := n5_; clear n0_ n1_ n2_ n3_ n4_ n5_; (try clear hb); (try clear hb2); (try clear hk); (try clear hi); (try clear ho0); obtain ⟨Ao35, co35, eo35⟩ := Kd.R_slice HO636.out; subst eo35))
          go_loopg [88] k3 (fun kq v88 w' => ∃ (x88_4 : Int), v88 = .int .i64 x88_4 ∧ Aside0 (insolvencylaw8_PartySymmetric.l2 kq x40_1 t634 (t618.length : Int) x40_1 t634 (t634.length : Int) x88_4 t618 t621 t624 = some r) ∧ Aside0 (kq ≤ k3) ∧ Aside0 (Kd.R (Kd.int .i64) 3 w' w.heap.size (fun k_ => some k_ ≠ ((.slice Ao8 t618.length co8) : Value).ownBlock) (.slice Ao35 t634.length co35) t634) ∧ Aside0 (Kd.R (Kd.int .i64) 3 w' w.heap.size (fun k_ => some k_ ≠ ((.slice Ao8 t618.length co8) : Value).ownBlock) (.slice Ao35 t634.length co35) t634) ∧ Aside0 (Kd.R (Kd.int .i64) 3 w' w.heap.size (fun k_ => some k_ ≠ ((.slice Ao35 t634.length co35) : Value).ownBlock ∧ some k_ ≠ ((.slice Ao35 t634.length co35) : Value).ownBlock) (.slice Ao8 t618.length co8) t618) ∧ Aside0 (Kd.R k36 36 w' w.heap.size (fun _ => True) (.slice Ao10 t621.length co10) t621) ∧ Aside0 (Kd.R k38 38 w' w.heap.size (fun _ => True) (.slice Ao11 t624.length co11) t624) ∧ Aside0 (w'.heap[gb627]? = some (.cells #[(.slice Ao8 t618.length co8), (.slice Ao10 t621.length co10), (.slice Ao11 t624.length co11)] 26 (0, 0))) ∧ Aside0 (Below w.heap.size w w'))
          case atStart => exact ⟨(0), (by first | rfl | (simp; done) | (simp [*]; done)), H', ⟨Nat.le_refl _⟩, ⟨Kd.R_up (Kd.R_mono HO636.out (fun _ hk => hk.2))⟩, ⟨Kd.R_up (Kd.R_mono HO636.out (fun _ hk => hk.2))⟩, ⟨Kd.R_up (Kd.R_mono HO_628000.out (fun _ hk => ⟨hk.2, hk.2⟩))⟩, ⟨Kd.R_up HO_628001.out⟩, ⟨Kd.R_up HO_628002.out⟩, ⟨kU BK627.out⟩, ⟨bU HB.out⟩⟩
          case round =>
           clear H'
           (try clear c1); (try clear c2); (try clear p2); (try clear c3); (try clear p6); (try clear c8); (try clear c12); (try clear c12b0); (try clear c14); (try clear c15); (try clear c17); (try clear c17b0); (try clear c17b1); (try clear c18); (try clear c19); (try clear c20); (try clear c20b0); (try clear c23); (try clear c23b0); (try clear c23b1); (try clear c23b2); (try clear hcz15_0 hcz15_1 hcz15_2); (try clear hcz19_0 hcz19_1 hcz19_2); (try clear hcz24_0 hcz24_1 hcz24_2); (try clear hcz26_0 hcz26_1 hcz26_2); (try clear hcz28_0 hcz28_1 hcz28_2); (try clear hcz30_0 hcz30_1 hcz30_2); (try clear hcz33_0 hcz33_1 hcz33_2); (try clear hcz9_0 hcz9_1 hcz9_2); (try clear hfz15_0 hfz15_1 hfz15_2); (try clear hfz19_0 hfz19_1 hfz19_2); (try clear hfz24_0 hfz24_1 hfz24_2); (try clear hfz26_0 hfz26_1 hfz26_2); (try clear hfz28_0 hfz28_1 hfz28_2); (try clear hfz30_0 hfz30_1 hfz30_2); (try clear hfz33_0 hfz33_1 hfz33_2); (try clear hfz9_0 hfz9_1 hfz9_2); (try clear p2)
           obtain ⟨x88_4, rfl, HA, HK4, HO_18, HO_86, HO_628000, HO_628001, HO_628002, BK627, HB⟩ := hrel
           cases gk with
           | zero => exact absurd HA.out (by simp [insolvencylaw8_PartySymmetric.l2])
           | succ k4 =>
            have H := HA.out
            clear HA
            simp only [insolvencylaw8_PartySymmetric.l2] at H
            by_cases c36 : x88_4 < (t634.length : Int)
            ·rw [if_pos c36] at H
             have c36b0 := decide_eq_true c36
             clear c36
             by_cases c37 : 0 ≤ x88_4
             ·rw [if_pos c37] at H
              have c37b0 := decide_eq_true c37
              clear c37
              by_cases c38 : x88_4 < (t634.length : Int)
              ·rw [if_pos c38] at H
               have c38b0 := decide_eq_true c38
               clear c38
               have H' := Aside0.mk H
               clear H
               have p638 : 0 ≤ (x88_4 : Int) := oD
               have q638 : x88_4 < (t634.length : Int) := oD
               obtain ⟨ad638, e638, hx638_0⟩ := Kd.at_int (Kd.R_reads' HO_86.out).2.2 x88_4 p638 q638
               cases e638
               replace p638 := eq_true p638
               replace q638 := eq_true q638
               go_wp2
               go_loopg [94] k4 (fun kq v94 w' => ∃ (x94_5 : Int), v94 = .int .i64 x94_5 ∧ Aside0 (insolvencylaw8_PartySymmetric.l3 kq x40_1 t634 (rd t634 x88_4) (t618.length : Int) x40_1 t634 (t634.length : Int) x88_4 t634 (t634.length : Int) x94_5 t618 t621 t624 = some r) ∧ Aside0 (kq ≤ k4) ∧ Aside0 (Kd.R (Kd.int .i64) 3 w' w.heap.size (fun k_ => some k_ ≠ ((.slice Ao8 t618.length co8) : Value).ownBlock) (.slice (some ad638) t634.length co35) t634) ∧ Aside0 (Kd.R (Kd.int .i64) 3 w' w.heap.size (fun k_ => some k_ ≠ ((.slice Ao8 t618.length co8) : Value).ownBlock) (.slice (some ad638) t634.length co35) t634) ∧ Aside0 (Kd.R (Kd.int .i64) 3 w' w.heap.size (fun k_ => some k_ ≠ ((.slice Ao8 t618.length co8) : Value).ownBlock) (.slice (some ad638) t634.length co35) t634) ∧ Aside0 (Kd.R (Kd.int .i64) 3 w' w.heap.size (fun k_ => some k_ ≠ ((.slice (some ad638) t634.length co35) : Value).ownBlock ∧ some k_ ≠ ((.slice (some ad638) t634.length co35) : Value).ownBlock ∧ some k_ ≠ ((.slice (some ad638) t634.length co35) : Value).ownBlock) (.slice Ao8 t618.length co8) t618) ∧ Aside0 (Kd.R k36 36 w' w.heap.size (fun _ => True) (.slice Ao10 t621.length co10) t621) ∧ Aside0 (Kd.R k38 38 w' w.heap.size (fun _ => True) (.slice Ao11 t624.length co11) t624) ∧ Aside0 (w'.heap[gb627]? = some (.cells #[(.slice Ao8 t618.length co8), (.slice Ao10 t621.length co10), (.slice Ao11 t624.length co11)] 26 (0, 0))) ∧ Aside0 (Below w.heap.size w w'))
               case atStart => exact ⟨(0), (by first | rfl | (simp; done) | (simp [*]; done)), H', ⟨Nat.le_refl _⟩, ⟨Kd.R_up HO_18.out⟩, ⟨Kd.R_up HO_86.out⟩, ⟨Kd.R_up HO_18.out⟩, ⟨Kd.R_up (Kd.R_mono HO_628000.out (fun _ hk => ⟨hk.1, ⟨hk.2, hk.1⟩⟩))⟩, ⟨Kd.R_up HO_628001.out⟩, ⟨Kd.R_up HO_628002.out⟩, ⟨kU BK627.out⟩, ⟨bU HB.out⟩⟩
               case round =>
                clear H'
                (try clear c1); (try clear c2); (try clear p2); (try clear c3); (try clear p6); (try clear q6); (try clear hx6); (try clear c8); (try clear c12); (try clear c12b0); (try clear c14); (try clear c15); (try clear c17); (try clear c17b0); (try clear c17b1); (try clear c18); (try clear c19); (try clear c20); (try clear c20b0); (try clear c23); (try clear c23b0); (try clear c23b1); (try clear c23b2); (try clear c36); (try clear c36b0); (try clear c37); (try clear c37b0); (try clear c38); (try clear c38b0); (try clear hcz15_0 hcz15_1 hcz15_2); (try clear hcz19_0 hcz19_1 hcz19_2); (try clear hcz24_0 hcz24_1 hcz24_2); (try clear hcz26_0 hcz26_1 hcz26_2); (try clear hcz28_0 hcz28_1 hcz28_2); (try clear hcz30_0 hcz30_1 hcz30_2); (try clear hcz33_0 hcz33_1 hcz33_2); (try clear hcz9_0 hcz9_1 hcz9_2); (try clear hfz15_0 hfz15_1 hfz15_2); (try clear hfz19_0 hfz19_1 hfz19_2); (try clear hfz24_0 hfz24_1 hfz24_2); (try clear hfz26_0 hfz26_1 hfz26_2); (try clear hfz28_0 hfz28_1 hfz28_2); (try clear hfz30_0 hfz30_1 hfz30_2); (try clear hfz33_0 hfz33_1 hfz33_2); (try clear hfz9_0 hfz9_1 hfz9_2); (try clear hx638_0); (try clear p2); (try clear p6); (try clear p638); (try clear q638)
                obtain ⟨x94_5, rfl, HA, HK5, HO_18, HO_86, HO_92, HO_628000, HO_628001, HO_628002, BK627, HB⟩ := hrel
                cases gk with
                | zero => exact absurd HA.out (by simp [insolvencylaw8_PartySymmetric.l3])
                | succ k5 =>
                 have H := HA.out
                 clear HA
                 simp only [insolvencylaw8_PartySymmetric.l3] at H
                 by_cases c39 : x94_5 < (t634.length : Int)
                 ·rw [if_pos c39] at H
                  have c39b0 := decide_eq_true c39
                  clear c39
                  by_cases c40 : 0 ≤ x94_5
                  ·rw [if_pos c40] at H
                   have c40b0 := decide_eq_true c40
                   clear c40
                   by_cases c41 : x94_5 < (t634.length : Int)
                   ·rw [if_pos c41] at H
                    have c41b0 := decide_eq_true c41
                    clear c41
                    replace H := bE H
                    obtain ⟨⟨t640, t641⟩, A420, H⟩ := H
                    replace H : ((party_Connected.f k5 t618 t621 t624 x40_1 (rd t634 x94_5)).bind fun bt642 => (if t640 = true then (if bt642.1 = true then (insolvencylaw8_PartySymmetric.l3 k5 x40_1 t634 (rd t634 x88_4) (t618.length : Int) x40_1 t634 (t634.length : Int) x88_4 t634 (t634.length : Int) (wrap64 (x94_5 + 1)) t618 t621 t624) else (some false)) else (some false))) = some r := H
                    have A42 := Aside0.mk A420
                    clear A420
                    replace H := bE H
                    obtain ⟨⟨t642, t643⟩, A430, H⟩ := H
                    replace H : (if t640 = true then (if t642 = true then (insolvencylaw8_PartySymmetric.l3 k5 x40_1 t634 (rd t634 x88_4) (t618.length : Int) x40_1 t634 (t634.length : Int) x88_4 t634 (t634.length : Int) (wrap64 (x94_5 + 1)) t618 t621 t624) else (some false)) else (some false)) = some r := H
                    have A43 := Aside0.mk A430
                    clear A430
                    by_cases c44 : t640 = true
                    ·subst c44
                     have H1 : (if t642 = true then (insolvencylaw8_PartySymmetric.l3 k5 x40_1 t634 (rd t634 x88_4) (t618.length : Int) x40_1 t634 (t634.length : Int) x88_4 t634 (t634.length : Int) (wrap64 (x94_5 + 1)) t618 t621 t624) else (some false)) = some r := by rw [if_pos rfl] at H; exact H
                     clear H
                     have H := H1
                     clear H1
                     by_cases c45 : t642 = true
                     ·subst c45
                      have H1 : (insolvencylaw8_PartySymmetric.l3 k5 x40_1 t634 (rd t634 x88_4) (t618.length : Int) x40_1 t634 (t634.length : Int) x88_4 t634 (t634.length : Int) (wrap64 (x94_5 + 1)) t618 t621 t624) = some r := by rw [if_pos rfl] at H; exact H
                      clear H
                      have H := H1
                      clear H1
                      have H' := Aside0.mk H
                      clear H
                      have p639 : 0 ≤ (x94_5 : Int) := oD
                      have q639 : x94_5 < (t634.length : Int) := oD
                      obtain ⟨ad639, e639, hx639_0⟩ := Kd.at_int (Kd.R_reads' HO_92.out).2.2 x94_5 p639 q639
                      obtain rfl : ad638 = ad639 := (by injection e639)
                      replace p639 := eq_true p639
                      replace q639 := eq_true q639
                      obtain ⟨hcz46_0, hcz46_1, hcz46_2, hfz46_0, hfz46_1, hfz46_2⟩ := cz3 BK627.out
                      go_wp2_with (first | ((with_reducible refine gate_callee (f := 19) rfl ?_); refine goesLq (some 102) rfl rfl Tryd.func19 #[.agg #[.slice Ao8 t618.length co8, .slice Ao10 t621.length co10, .slice Ao11 t624.length co11], .int .i64 (rd t634 x88_4), .int .i64 (rd t634 x94_5)] rfl ?_; (with_reducible refine (party_Connected.calls k5 _ _ t618 _ _ t621 _ _ t624 (rd t634 x88_4) (rd t634 x94_5) true t641 _ ?side1 ?side2 ?side3 ?side4 ?side5 ?side6 A42.out).mono ?_); (case side1 => exact Kd.C_up (Kd.R_reads' HO_628000.out).2.2); (case side2 => exact (Kd.R_reads' HO_628000.out).2.1); (case side3 => exact Kd.C_up (Kd.R_reads' HO_628001.out).2.2); (case side4 => exact (Kd.R_reads' HO_628001.out).2.1); (case side5 => exact Kd.C_up (Kd.R_reads' HO_628002.out).2.2); (case side6 => exact (Kd.R_reads' HO_628002.out).2.1); rintro e w47 ⟨rfl, hb⟩; refine ⟨_, rfl, ?_⟩; have n0_ := aM (Kd.R_below (Kd.R_up HO_18.out) hb); have n1_ := aM (Kd.R_below (Kd.R_up HO_86.out) hb); have n2_ := aM (Kd.R_below (Kd.R_up HO_92.out) hb); have n3_ := aM (Kd.R_below (Kd.R_up HO_628000.out) hb); have n4_ := aM (Kd.R_below (Kd.R_up HO_628001.out) hb); have n5_ := aM (Kd.R_below (Kd.R_up HO_628002.out) hb); have n6_ := aM (blk_below (kU BK627.out) hb); have n7_ := aM (below_step (bU HB.out) hb); clear HO_18; clear HO_86; clear HO_92; clear HO_628000; clear HO_628001; clear HO_628002; clear BK627; clear HB; have HO_18 := n0_; have HO_86 := n1_; have HO_92 := n2_; have HO_628000 := n3_; have HO_628001 := n4_; have HO_628002 := n5_; have BK627 := n6_; have HB := n7_; clear n0_ n1_ n2_ n3_ n4_ n5_ n6_ n7_; (try clear hb); (try clear hb2); (try clear hk); (try clear hi); obtain ⟨hcz48_0, hcz48_1, hcz48_2, hfz48_0, hfz48_1, hfz48_2⟩ := cz3 BK627.out) | ((with_reducible refine gate_callee (f := 19) rfl ?_); refine goesLq (some 109) rfl rfl Tryd.func19 #[.agg #[.slice Ao8 t618.length co8, .slice Ao10 t621.length co10, .slice Ao11 t624.length co11], .int .i64 x40_1, .int .i64 (rd t634 x94_5)] rfl ?_; (with_reducible refine (party_Connected.calls k5 _ _ t618 _ _ t621 _ _ t624 x40_1 (rd t634 x94_5) true t643 _ ?side1 ?side2 ?side3 ?side4 ?side5 ?side6 A43.out).mono ?_); (case side1 => exact Kd.C_up (Kd.R_reads' HO_628000.out).2.2); (case side2 => exact (Kd.R_reads' HO_628000.out).2.1); (case side3 => exact Kd.C_up (Kd.R_reads' HO_628001.out).2.2); (case side4 => exact (Kd.R_reads' HO_628001.out).2.1); (case side5 => exact Kd.C_up (Kd.R_reads' HO_628002.out).2.2); (case side6 => exact (Kd.R_reads' HO_628002.out).2.1); rintro e w49 ⟨rfl, hb⟩; refine ⟨_, rfl, ?_⟩; have n0_ := aM (Kd.R_below (Kd.R_up HO_18.out) hb); have n1_ := aM (Kd.R_below (Kd.R_up HO_86.out) hb); have n2_ := aM (Kd.R_below (Kd.R_up HO_92.out) hb); have n3_ := aM (Kd.R_below (Kd.R_up HO_628000.out) hb); have n4_ := aM (Kd.R_below (Kd.R_up HO_628001.out) hb); have n5_ := aM (Kd.R_below (Kd.R_up HO_628002.out) hb); have n6_ := aM (blk_below (kU BK627.out) hb); have n7_ := aM (below_step (bU HB.out) hb); clear HO_18; clear HO_86; clear HO_92; clear HO_628000; clear HO_628001; clear HO_628002; clear BK627; clear HB; have HO_18 := n0_; have HO_86 := n1_; have HO_92 := n2_; have HO_628000 := n3_; have HO_628001 := n4_; have HO_628002 := n5_; have BK627 := n6_; have HB := n7_; clear n0_ n1_ n2_ n3_ n4_ n5_ n6_ n7_; (try clear hb); (try clear hb2); (try clear hk); (try clear hi)))
                      go_roundg k5
                      case measure => have := HK1.out; have := HJ13.out; have := HK3.out; have := HK4.out; have := HK5.out; omega
                      case rel => exact ⟨(wrap64 (x94_5 + 1)), (by first | rfl | (simp; done) | (simp [*]; done)), H', ⟨by have := HK1.out; have := HJ13.out; have := HK3.out; have := HK4.out; have := HK5.out; omega⟩, ⟨Kd.R_up HO_18.out⟩, ⟨Kd.R_up HO_86.out⟩, ⟨Kd.R_up HO_92.out⟩, ⟨Kd.R_up HO_628000.out⟩, ⟨Kd.R_up HO_628001.out⟩, ⟨Kd.R_up HO_628002.out⟩, ⟨kU BK627.out⟩, ⟨bU HB.out⟩⟩
                     ·replace c45 := Bool.eq_false_iff.mpr c45
                      subst c45
                      have H1 : (some false) = some r := by rw [if_neg (show ¬ (false = true) by decide)] at H; exact H
                      clear H
                      have H := H1
                      clear H1
                      obtain rfl := Option.some.inj H
                      have p639 : 0 ≤ (x94_5 : Int) := oD
                      have q639 : x94_5 < (t634.length : Int) := oD
                      obtain ⟨ad639, e639, hx639_0⟩ := Kd.at_int (Kd.R_reads' HO_92.out).2.2 x94_5 p639 q639
                      obtain rfl : ad638 = ad639 := (by injection e639)
                      replace p639 := eq_true p639
                      replace q639 := eq_true q639
                      obtain ⟨hcz50_0, hcz50_1, hcz50_2, hfz50_0, hfz50_1, hfz50_2⟩ := cz3 BK627.out
                      go_wp2_with (first | ((with_reducible refine gate_callee (f := 19) rfl ?_); refine goesLq (some 102) rfl rfl Tryd.func19 #[.agg #[.slice Ao8 t618.length co8, .slice Ao10 t621.length co10, .slice Ao11 t624.length co11], .int .i64 (rd t634 x88_4), .int .i64 (rd t634 x94_5)] rfl ?_; (with_reducible refine (party_Connected.calls k5 _ _ t618 _ _ t621 _ _ t624 (rd t634 x88_4) (rd t634 x94_5) true t641 _ ?side1 ?side2 ?side3 ?side4 ?side5 ?side6 A42.out).mono ?_); (case side1 => exact Kd.C_up (Kd.R_reads' HO_628000.out).2.2); (case side2 => exact (Kd.R_reads' HO_628000.out).2.1); (case side3 => exact Kd.C_up (Kd.R_reads' HO_628001.out).2.2); (case side4 => exact (Kd.R_reads' HO_628001.out).2.1); (case side5 => exact Kd.C_up (Kd.R_reads' HO_628002.out).2.2); (case side6 => exact (Kd.R_reads' HO_628002.out).2.1); rintro e w51 ⟨rfl, hb⟩; refine ⟨_, rfl, ?_⟩; have n0_ := aM (Kd.R_below (Kd.R_up HO_18.out) hb); have n1_ := aM (Kd.R_below (Kd.R_up HO_86.out) hb); have n2_ := aM (Kd.R_below (Kd.R_up HO_92.out) hb); have n3_ := aM (Kd.R_below (Kd.R_up HO_628000.out) hb); have n4_ := aM (Kd.R_below (Kd.R_up HO_628001.out) hb); have n5_ := aM (Kd.R_below (Kd.R_up HO_628002.out) hb); have n6_ := aM (blk_below (kU BK627.out) hb); have n7_ := aM (below_step (bU HB.out) hb); clear HO_18; clear HO_86; clear HO_92; clear HO_628000; clear HO_628001; clear HO_628002; clear BK627; clear HB; have HO_18 := n0_; have HO_86 := n1_; have HO_92 := n2_; have HO_628000 := n3_; have HO_628001 := n4_; have HO_628002 := n5_; have BK627 := n6_; have HB := n7_; clear n0_ n1_ n2_ n3_ n4_ n5_ n6_ n7_; (try clear hb); (try clear hb2); (try clear hk); (try clear hi); obtain ⟨hcz52_0, hcz52_1, hcz52_2, hfz52_0, hfz52_1, hfz52_2⟩ := cz3 BK627.out) | ((with_reducible refine gate_callee (f := 19) rfl ?_); refine goesLq (some 109) rfl rfl Tryd.func19 #[.agg #[.slice Ao8 t618.length co8, .slice Ao10 t621.length co10, .slice Ao11 t624.length co11], .int .i64 x40_1, .int .i64 (rd t634 x94_5)] rfl ?_; (with_reducible refine (party_Connected.calls k5 _ _ t618 _ _ t621 _ _ t624 x40_1 (rd t634 x94_5) false t643 _ ?side1 ?side2 ?side3 ?side4 ?side5 ?side6 A43.out).mono ?_); (case side1 => exact Kd.C_up (Kd.R_reads' HO_628000.out).2.2); (case side2 => exact (Kd.R_reads' HO_628000.out).2.1); (case side3 => exact Kd.C_up (Kd.R_reads' HO_628001.out).2.2); (case side4 => exact (Kd.R_reads' HO_628001.out).2.1); (case side5 => exact Kd.C_up (Kd.R_reads' HO_628002.out).2.2); (case side6 => exact (Kd.R_reads' HO_628002.out).2.1); rintro e w53 ⟨rfl, hb⟩; refine ⟨_, rfl, ?_⟩; have n0_ := aM (Kd.R_below (Kd.R_up HO_18.out) hb); have n1_ := aM (Kd.R_below (Kd.R_up HO_86.out) hb); have n2_ := aM (Kd.R_below (Kd.R_up HO_92.out) hb); have n3_ := aM (Kd.R_below (Kd.R_up HO_628000.out) hb); have n4_ := aM (Kd.R_below (Kd.R_up HO_628001.out) hb); have n5_ := aM (Kd.R_below (Kd.R_up HO_628002.out) hb); have n6_ := aM (blk_below (kU BK627.out) hb); have n7_ := aM (below_step (bU HB.out) hb); clear HO_18; clear HO_86; clear HO_92; clear HO_628000; clear HO_628001; clear HO_628002; clear BK627; clear HB; have HO_18 := n0_; have HO_86 := n1_; have HO_92 := n2_; have HO_628000 := n3_; have HO_628001 := n4_; have HO_628002 := n5_; have BK627 := n6_; have HB := n7_; clear n0_ n1_ n2_ n3_ n4_ n5_ n6_ n7_; (try clear hb); (try clear hb2); (try clear hk); (try clear hi)))
                      go_ret
                      exact ⟨by first | rfl | (simp [errW_none, errW_some] <;> rfl) | (simp [*, errW_none, errW_some] <;> rfl), bU HB.out⟩
                    ·replace c44 := Bool.eq_false_iff.mpr c44
                     subst c44
                     have H1 : (some false) = some r := by rw [if_neg (show ¬ (false = true) by decide)] at H; exact H
                     clear H
                     have H := H1
                     clear H1
                     obtain rfl := Option.some.inj H
                     have p639 : 0 ≤ (x94_5 : Int) := oD
                     have q639 : x94_5 < (t634.length : Int) := oD
                     obtain ⟨ad639, e639, hx639_0⟩ := Kd.at_int (Kd.R_reads' HO_92.out).2.2 x94_5 p639 q639
                     obtain rfl : ad638 = ad639 := (by injection e639)
                     replace p639 := eq_true p639
                     replace q639 := eq_true q639
                     obtain ⟨hcz54_0, hcz54_1, hcz54_2, hfz54_0, hfz54_1, hfz54_2⟩ := cz3 BK627.out
                     go_wp2_with (first | ((with_reducible refine gate_callee (f := 19) rfl ?_); refine goesLq (some 102) rfl rfl Tryd.func19 #[.agg #[.slice Ao8 t618.length co8, .slice Ao10 t621.length co10, .slice Ao11 t624.length co11], .int .i64 (rd t634 x88_4), .int .i64 (rd t634 x94_5)] rfl ?_; (with_reducible refine (party_Connected.calls k5 _ _ t618 _ _ t621 _ _ t624 (rd t634 x88_4) (rd t634 x94_5) false t641 _ ?side1 ?side2 ?side3 ?side4 ?side5 ?side6 A42.out).mono ?_); (case side1 => exact Kd.C_up (Kd.R_reads' HO_628000.out).2.2); (case side2 => exact (Kd.R_reads' HO_628000.out).2.1); (case side3 => exact Kd.C_up (Kd.R_reads' HO_628001.out).2.2); (case side4 => exact (Kd.R_reads' HO_628001.out).2.1); (case side5 => exact Kd.C_up (Kd.R_reads' HO_628002.out).2.2); (case side6 => exact (Kd.R_reads' HO_628002.out).2.1); rintro e w55 ⟨rfl, hb⟩; refine ⟨_, rfl, ?_⟩; have n0_ := aM (Kd.R_below (Kd.R_up HO_18.out) hb); have n1_ := aM (Kd.R_below (Kd.R_up HO_86.out) hb); have n2_ := aM (Kd.R_below (Kd.R_up HO_92.out) hb); have n3_ := aM (Kd.R_below (Kd.R_up HO_628000.out) hb); have n4_ := aM (Kd.R_below (Kd.R_up HO_628001.out) hb); have n5_ := aM (Kd.R_below (Kd.R_up HO_628002.out) hb); have n6_ := aM (blk_below (kU BK627.out) hb); have n7_ := aM (below_step (bU HB.out) hb); clear HO_18; clear HO_86; clear HO_92; clear HO_628000; clear HO_628001; clear HO_628002; clear BK627; clear HB; have HO_18 := n0_; have HO_86 := n1_; have HO_92 := n2_; have HO_628000 := n3_; have HO_628001 := n4_; have HO_628002 := n5_; have BK627 := n6_; have HB := n7_; clear n0_ n1_ n2_ n3_ n4_ n5_ n6_ n7_; (try clear hb); (try clear hb2); (try clear hk); (try clear hi); obtain ⟨hcz56_0, hcz56_1, hcz56_2, hfz56_0, hfz56_1, hfz56_2⟩ := cz3 BK627.out) | ((with_reducible refine gate_callee (f := 19) rfl ?_); refine goesLq (some 109) rfl rfl Tryd.func19 #[.agg #[.slice Ao8 t618.length co8, .slice Ao10 t621.length co10, .slice Ao11 t624.length co11], .int .i64 x40_1, .int .i64 (rd t634 x94_5)] rfl ?_; (with_reducible refine (party_Connected.calls k5 _ _ t618 _ _ t621 _ _ t624 x40_1 (rd t634 x94_5) t642 t643 _ ?side1 ?side2 ?side3 ?side4 ?side5 ?side6 A43.out).mono ?_); (case side1 => exact Kd.C_up (Kd.R_reads' HO_628000.out).2.2); (case side2 => exact (Kd.R_reads' HO_628000.out).2.1); (case side3 => exact Kd.C_up (Kd.R_reads' HO_628001.out).2.2); (case side4 => exact (Kd.R_reads' HO_628001.out).2.1); (case side5 => exact Kd.C_up (Kd.R_reads' HO_628002.out).2.2); (case side6 => exact (Kd.R_reads' HO_628002.out).2.1); rintro e w57 ⟨rfl, hb⟩; refine ⟨_, rfl, ?_⟩; have n0_ := aM (Kd.R_below (Kd.R_up HO_18.out) hb); have n1_ := aM (Kd.R_below (Kd.R_up HO_86.out) hb); have n2_ := aM (Kd.R_below (Kd.R_up HO_92.out) hb); have n3_ := aM (Kd.R_below (Kd.R_up HO_628000.out) hb); have n4_ := aM (Kd.R_below (Kd.R_up HO_628001.out) hb); have n5_ := aM (Kd.R_below (Kd.R_up HO_628002.out) hb); have n6_ := aM (blk_below (kU BK627.out) hb); have n7_ := aM (below_step (bU HB.out) hb); clear HO_18; clear HO_86; clear HO_92; clear HO_628000; clear HO_628001; clear HO_628002; clear BK627; clear HB; have HO_18 := n0_; have HO_86 := n1_; have HO_92 := n2_; have HO_628000 := n3_; have HO_628001 := n4_; have HO_628002 := n5_; have BK627 := n6_; have HB := n7_; clear n0_ n1_ n2_ n3_ n4_ n5_ n6_ n7_; (try clear hb); (try clear hb2); (try clear hk); (try clear hi)))
                     go_ret
                     exact ⟨by first | rfl | (simp [errW_none, errW_some] <;> rfl) | (simp [*, errW_none, errW_some] <;> rfl), bU HB.out⟩
                   ·rw [if_neg c41] at H
                    exact absurd H (by simp)
                  ·rw [if_neg c40] at H
                   exact absurd H (by simp)
                 ·rw [if_neg c39] at H
                  have c39b0 := decide_eq_false c39
                  clear c39
                  have H' := Aside0.mk H
                  clear H
                  go_wp2
                  go_roundg k5
                  case measure => have := HK1.out; have := HJ13.out; have := HK3.out; have := HK4.out; have := HK5.out; omega
                  case rel => exact ⟨(wrap64 (x88_4 + 1)), (by first | rfl | (simp; done) | (simp [*]; done)), H', ⟨by have := HK1.out; have := HJ13.out; have := HK3.out; have := HK4.out; have := HK5.out; omega⟩, ⟨Kd.R_up HO_18.out⟩, ⟨Kd.R_up HO_86.out⟩, ⟨Kd.R_up (Kd.R_mono HO_628000.out (fun _ hk => ⟨hk.1, hk.2.1⟩))⟩, ⟨Kd.R_up HO_628001.out⟩, ⟨Kd.R_up HO_628002.out⟩, ⟨kU BK627.out⟩, ⟨bU HB.out⟩⟩
              ·rw [if_neg c38] at H
               exact absurd H (by simp)
             ·rw [if_neg c37] at H
              exact absurd H (by simp)
            ·rw [if_neg c36] at H
             have c36b0 := decide_eq_false c36
             clear c36
             have H' := Aside0.mk H
             clear H
             go_wp2
             go_roundg k4
             case measure => have := HK1.out; have := HJ13.out; have := HK3.out; have := HK4.out; omega
             case rel => exact ⟨(wrap64 (x40_1 + 1)), (by first | rfl | (simp; done) | (simp [*]; done)), H', ⟨by have := HK1.out; have := HJ13.out; have := HK3.out; have := HK4.out; omega⟩, ⟨Kd.R_up (Kd.R_mono HO_628000.out (fun _ hk => trivial))⟩, ⟨Kd.R_up HO_628001.out⟩, ⟨Kd.R_up HO_628002.out⟩, ⟨kU BK627.out⟩, ⟨bU HB.out⟩⟩
   ·rw [if_neg c12] at H
    have c12b0 := decide_eq_false c12
    clear c12
    have H' := Aside0.mk H
    clear H
    obtain ⟨hcz58_0, hcz58_1, hcz58_2, hfz58_0, hfz58_1, hfz58_2⟩ := cz3 BK627.out
    go_wp2
    go_loopg [124] k1 (fun kq v124 w' => ∃ (x124_2 : Int), v124 = .int .i64 x124_2 ∧ Aside0 (insolvencylaw8_PartySymmetric.l4 kq t624 (t624.length : Int) x124_2 t618 t621 t624 = some r) ∧ Aside0 (kq ≤ k1) ∧ Aside0 (Kd.R k38 38 w' w.heap.size (fun _ => True) (.slice Ao11 t624.length co11) t624) ∧ Aside0 (Kd.R (Kd.int .i64) 3 w' w.heap.size (fun _ => True) (.slice Ao8 t618.length co8) t618) ∧ Aside0 (Kd.R k36 36 w' w.heap.size (fun _ => True) (.slice Ao10 t621.length co10) t621) ∧ Aside0 (Kd.R k38 38 w' w.heap.size (fun _ => True) (.slice Ao11 t624.length co11) t624) ∧ Aside0 (w'.heap[gb627]? = some (.cells #[(.slice Ao8 t618.length co8), (.slice Ao10 t621.length co10), (.slice Ao11 t624.length co11)] 26 (0, 0))) ∧ Aside0 (Below w.heap.size w w'))
    case atStart => exact ⟨(0), (by first | rfl | (simp; done) | (simp [*]; done)), H', ⟨Nat.le_refl _⟩, ⟨Kd.R_up HO_628002.out⟩, ⟨Kd.R_up HO_628000.out⟩, ⟨Kd.R_up HO_628001.out⟩, ⟨Kd.R_up HO_628002.out⟩, ⟨kU BK627.out⟩, ⟨bU HB.out⟩⟩
    case round =>
     clear H'
     (try clear c1); (try clear c2); (try clear p2); (try clear c3); (try clear c4); (try clear p6); (try clear q6); (try clear hx6); (try clear c8); (try clear c12); (try clear c12b0); (try clear c14); (try clear c15); (try clear c17); (try clear c17b0); (try clear c17b1); (try clear c18); (try clear c19); (try clear c20); (try clear c20b0); (try clear c23); (try clear c23b0); (try clear c23b1); (try clear c23b2); (try clear c36); (try clear c36b0); (try clear c37); (try clear c37b0); (try clear c38); (try clear c38b0); (try clear c39); (try clear c39b0); (try clear c40); (try clear c40b0); (try clear c41); (try clear c41b0); (try clear c44); (try clear c45); (try clear hcz15_0 hcz15_1 hcz15_2); (try clear hcz19_0 hcz19_1 hcz19_2); (try clear hcz24_0 hcz24_1 hcz24_2); (try clear hcz26_0 hcz26_1 hcz26_2); (try clear hcz28_0 hcz28_1 hcz28_2); (try clear hcz30_0 hcz30_1 hcz30_2); (try clear hcz33_0 hcz33_1 hcz33_2); (try clear hcz46_0 hcz46_1 hcz46_2); (try clear hcz48_0 hcz48_1 hcz48_2); (try clear hcz50_0 hcz50_1 hcz50_2); (try clear hcz52_0 hcz52_1 hcz52_2); (try clear hcz54_0 hcz54_1 hcz54_2); (try clear hcz56_0 hcz56_1 hcz56_2); (try clear hcz58_0 hcz58_1 hcz58_2); (try clear hcz9_0 hcz9_1 hcz9_2); (try clear hfz15_0 hfz15_1 hfz15_2); (try clear hfz19_0 hfz19_1 hfz19_2); (try clear hfz24_0 hfz24_1 hfz24_2); (try clear hfz26_0 hfz26_1 hfz26_2); (try clear hfz28_0 hfz28_1 hfz28_2); (try clear hfz30_0 hfz30_1 hfz30_2); (try clear hfz33_0 hfz33_1 hfz33_2); (try clear hfz46_0 hfz46_1 hfz46_2); (try clear hfz48_0 hfz48_1 hfz48_2); (try clear hfz50_0 hfz50_1 hfz50_2); (try clear hfz52_0 hfz52_1 hfz52_2); (try clear hfz54_0 hfz54_1 hfz54_2); (try clear hfz56_0 hfz56_1 hfz56_2); (try clear hfz58_0 hfz58_1 hfz58_2); (try clear hfz9_0 hfz9_1 hfz9_2); (try clear hx638_0); (try clear hx639_0); (try clear p2); (try clear p6); (try clear p638); (try clear p639); (try clear q6); (try clear q638); (try clear q639)
     obtain ⟨x124_2, rfl, HA, HK2, HO_122, HO_628000, HO_628001, HO_628002, BK627, HB⟩ := hrel
     cases gk with
     | zero => exact absurd HA.out (by simp [insolvencylaw8_PartySymmetric.l4])
     | succ k2 =>
      have H := HA.out
      clear HA
      simp only [insolvencylaw8_PartySymmetric.l4] at H
      by_cases c59 : x124_2 < (t624.length : Int)
      ·rw [if_pos c59] at H
       have c59b0 := decide_eq_true c59
       clear c59
       by_cases c60 : 0 ≤ x124_2
       ·rw [if_pos c60] at H
        have c60b0 := decide_eq_true c60
        clear c60
        by_cases c61 : x124_2 < (t624.length : Int)
        ·rw [if_pos c61] at H
         have c61b0 := decide_eq_true c61
         clear c61
         replace H := bE H
         obtain ⟨⟨t646, t647⟩, A620, H⟩ := H
         replace H : (if t646 = true then (insolvencylaw8_PartySymmetric.l4 k2 t624 (t624.length : Int) (wrap64 (x124_2 + 1)) t618 t621 t624) else (some false)) = some r := H
         have A62 := Aside0.mk A620
         clear A620
         by_cases c63 : t646 = true
         ·subst c63
          have H1 : (insolvencylaw8_PartySymmetric.l4 k2 t624 (t624.length : Int) (wrap64 (x124_2 + 1)) t618 t621 t624) = some r := by rw [if_pos rfl] at H; exact H
          clear H
          have H := H1
          clear H1
          have H' := Aside0.mk H
          clear H
          have p644 : 0 ≤ (x124_2 : Int) := oD
          have q644 : x124_2 < (t624.length : Int) := oD
          obtain ⟨ad644, e644, hx644_0, hx644_1⟩ := at_T38 (Kd.R_reads' HO_122.out).2.2 x124_2 p644 q644
          cases e644
          replace p644 := eq_true p644
          replace q644 := eq_true q644
          go_wp2_with (first | ((with_reducible refine gate_dst (N := 29) rfl ?_); refine box_event ?hg (N := 29) ?hd (cs := #[.int .i64 0, .int .i64 0]) (t := 38) ?hr ?_; (case hd => rfl); (case hg => rfl); (case hr => first | (go_simp; done) | (go_simp; rfl)); intro gb645 hg w64 hbox hb; have n0_ := aM (Kd.R_below (Kd.R_elderB (Kd.R_up HO_122.out) gb645 (Nat.le_of_eq hg.symm)) hb); have n1_ := aM (Kd.R_below (Kd.R_up HO_628000.out) hb); have n2_ := aM (Kd.R_below (Kd.R_up HO_628001.out) hb); have n3_ := aM (Kd.R_below (Kd.R_elderB (Kd.R_up HO_628002.out) gb645 (Nat.le_of_eq hg.symm)) hb); have n4_ := aM (blk_below (kU BK627.out) hb); have n5_ := aM (below_step (bU HB.out) hb); have n6_ := aM (hbox); have n7_ := aM ((by rw [hg]; exact (below_size (bU HB.out)) : w.heap.size ≤ gb645)); have n8_ := aM ((by rw [hg]; exact (below_size (bU HB.out)) : w.heap.size ≤ gb645)); have n9_ := aM ((by rw [hg]; exact Nat.ne_of_lt (blk_lt (kU BK627.out)) : gb627 ≠ gb645)); have n10_ := aM ((by rw [hg]; exact Nat.ne_of_gt (blk_lt (kU BK627.out)) : gb645 ≠ gb627)); clear HO_122; clear HO_628000; clear HO_628001; clear HO_628002; clear BK627; clear HB; have HO_122 := n0_; have HO_628000 := n1_; have HO_628001 := n2_; have HO_628002 := n3_; have BK627 := n4_; have HB := n5_; have BK645 := n6_; have GW645 := n7_; have GE645 := n8_; have NB627_645 := n9_; have NB645_627 := n10_; clear n0_ n1_ n2_ n3_ n4_ n5_ n6_ n7_ n8_ n9_ n10_; clear hb hbox hg; have hnb65 := NB645_627.out; have hnc65 := NB627_645.out; obtain ⟨hcz66_0, hcz66_1, hfz66_0, hfz66_1⟩ := cz2 BK645.out; obtain ⟨hcz67_0, hcz67_1, hcz67_2, hfz67_0, hfz67_1, hfz67_2⟩ := cz3 BK627.out) | ((with_reducible refine gate_callee (f := 19) rfl ?_); refine goesLq (some 134) rfl rfl Tryd.func19 #[.agg #[.slice Ao8 t618.length co8, .slice Ao10 t621.length co10, .slice (some ad644) t624.length co11], .int .i64 ((rd_T38 t624 x124_2).f0), .int .i64 ((rd_T38 t624 x124_2).f1)] rfl ?_; (with_reducible refine (party_Connected.calls k2 _ _ t618 _ _ t621 _ _ t624 ((rd_T38 t624 x124_2).f0) ((rd_T38 t624 x124_2).f1) true t647 _ ?side1 ?side2 ?side3 ?side4 ?side5 ?side6 A62.out).mono ?_); (case side1 => refine (Kd.R_reads' (e := 3) (base := w.heap.size) (ok := fun k_ => True) (n := t618.length) (c := co8) ?_).2.2; exact (Kd.R_up ((Kd.R_mono (Kd.R_far (p := ⟨gb645, 1, none⟩) (Kd.R_far (p := ⟨gb645, 0, none⟩) (Kd.R_types HO_628000.out BK645.out (by decide)) (fun _ hk => hk.2) (.int .i64 ((rd_T38 t624 x124_2).f0))) (fun _ hk => hk.2) (.int .i64 ((rd_T38 t624 x124_2).f1))) (fun _ h_ => h_.1))))); (case side2 => exact (Kd.R_reads' HO_628000.out).2.1); (case side3 => refine (Kd.R_reads' (e := 36) (base := w.heap.size) (ok := fun k_ => True) (n := t621.length) (c := co10) ?_).2.2; exact (Kd.R_up ((Kd.R_mono (Kd.R_far (p := ⟨gb645, 1, none⟩) (Kd.R_far (p := ⟨gb645, 0, none⟩) (Kd.R_types HO_628001.out BK645.out (by decide)) (fun _ hk => hk.2) (.int .i64 ((rd_T38 t624 x124_2).f0))) (fun _ hk => hk.2) (.int .i64 ((rd_T38 t624 x124_2).f1))) (fun _ h_ => h_.1))))); (case side4 => exact (Kd.R_reads' HO_628001.out).2.1); (case side5 => refine (Kd.R_reads' (e := 38) (base := w.heap.size) (ok := fun k_ => (True ∧ k_ ≠ gb645)) (n := t624.length) (c := co11) ?_).2.2; exact (Kd.R_up ((Kd.R_mono (Kd.R_far (p := ⟨gb645, 1, none⟩) (Kd.R_far (p := ⟨gb645, 0, none⟩) (Kd.R_mono HO_628002.out (fun k_ hk => (⟨hk, hk.2⟩ : _ ∧ k_ ≠ gb645))) (fun _ hk => hk.2) (.int .i64 ((rd_T38 t624 x124_2).f0))) (fun _ hk => hk.2) (.int .i64 ((rd_T38 t624 x124_2).f1))) (fun _ h_ => h_.1))))); (case side6 => exact (Kd.R_reads' HO_628002.out).2.1); rintro e w68 ⟨rfl, hb⟩; refine ⟨_, rfl, ?_⟩; have n0_ := aM (Kd.R_below (Kd.R_up ((Kd.R_mono (Kd.R_far (p := ⟨gb645, 1, none⟩) (Kd.R_far (p := ⟨gb645, 0, none⟩) (Kd.R_mono HO_122.out (fun k_ hk => (⟨hk, hk.2⟩ : _ ∧ k_ ≠ gb645))) (fun _ hk => hk.2) (.int .i64 ((rd_T38 t624 x124_2).f0))) (fun _ hk => hk.2) (.int .i64 ((rd_T38 t624 x124_2).f1))) (fun _ h_ => h_.1)))) hb); have n1_ := aM (Kd.R_below (Kd.R_up ((Kd.R_mono (Kd.R_far (p := ⟨gb645, 1, none⟩) (Kd.R_far (p := ⟨gb645, 0, none⟩) (Kd.R_types HO_628000.out BK645.out (by decide)) (fun _ hk => hk.2) (.int .i64 ((rd_T38 t624 x124_2).f0))) (fun _ hk => hk.2) (.int .i64 ((rd_T38 t624 x124_2).f1))) (fun _ h_ => h_.1)))) hb); have n2_ := aM (Kd.R_below (Kd.R_up ((Kd.R_mono (Kd.R_far (p := ⟨gb645, 1, none⟩) (Kd.R_far (p := ⟨gb645, 0, none⟩) (Kd.R_types HO_628001.out BK645.out (by decide)) (fun _ hk => hk.2) (.int .i64 ((rd_T38 t624 x124_2).f0))) (fun _ hk => hk.2) (.int .i64 ((rd_T38 t624 x124_2).f1))) (fun _ h_ => h_.1)))) hb); have n3_ := aM (Kd.R_below (Kd.R_up ((Kd.R_mono (Kd.R_far (p := ⟨gb645, 1, none⟩) (Kd.R_far (p := ⟨gb645, 0, none⟩) (Kd.R_mono HO_628002.out (fun k_ hk => (⟨hk, hk.2⟩ : _ ∧ k_ ≠ gb645))) (fun _ hk => hk.2) (.int .i64 ((rd_T38 t624 x124_2).f0))) (fun _ hk => hk.2) (.int .i64 ((rd_T38 t624 x124_2).f1))) (fun _ h_ => h_.1)))) hb); have n4_ := aM (blk_below (g := gb627) (o := .cells #[.slice Ao8 t618.length co8, .slice Ao10 t621.length co10, .slice (some ad644) t624.length co11] 26 (0, 0)) (kP BK627.out) hb); have n5_ := aM (blk_below (g := gb645) (o := .cells #[.int .i64 ((rd_T38 t624 x124_2).f0), .int .i64 ((rd_T38 t624 x124_2).f1)] 38 (0, 0)) (kP BK645.out) hb); have n6_ := aM (below_step (bU HB.out) hb); clear HO_122; clear HO_628000; clear HO_628001; clear HO_628002; clear BK627; clear BK645; clear HB; have HO_122 := n0_; have HO_628000 := n1_; have HO_628001 := n2_; have HO_628002 := n3_; have BK627 := n4_; have BK645 := n5_; have HB := n6_; clear n0_ n1_ n2_ n3_ n4_ n5_ n6_; (try clear hb); (try clear hb2); (try clear hk); (try clear hi)))
          go_roundg k2
          case measure => have := HK1.out; have := HK2.out; omega
          case rel => exact ⟨(wrap64 (x124_2 + 1)), (by first | rfl | (simp; done) | (simp [*]; done)), H', ⟨by have := HK1.out; have := HK2.out; omega⟩, ⟨Kd.R_up (Kd.R_mono HO_122.out (fun _ hk => trivial))⟩, ⟨Kd.R_up HO_628000.out⟩, ⟨Kd.R_up HO_628001.out⟩, ⟨Kd.R_up (Kd.R_mono HO_628002.out (fun _ hk => trivial))⟩, ⟨kU BK627.out⟩, ⟨bU HB.out⟩⟩
         ·replace c63 := Bool.eq_false_iff.mpr c63
          subst c63
          have H1 : (some false) = some r := by rw [if_neg (show ¬ (false = true) by decide)] at H; exact H
          clear H
          have H := H1
          clear H1
          obtain rfl := Option.some.inj H
          have p644 : 0 ≤ (x124_2 : Int) := oD
          have q644 : x124_2 < (t624.length : Int) := oD
          obtain ⟨ad644, e644, hx644_0, hx644_1⟩ := at_T38 (Kd.R_reads' HO_122.out).2.2 x124_2 p644 q644
          cases e644
          replace p644 := eq_true p644
          replace q644 := eq_true q644
          go_wp2_with (first | ((with_reducible refine gate_dst (N := 29) rfl ?_); refine box_event ?hg (N := 29) ?hd (cs := #[.int .i64 0, .int .i64 0]) (t := 38) ?hr ?_; (case hd => rfl); (case hg => rfl); (case hr => first | (go_simp; done) | (go_simp; rfl)); intro gb645 hg w69 hbox hb; have n0_ := aM (Kd.R_below (Kd.R_elderB (Kd.R_up HO_122.out) gb645 (Nat.le_of_eq hg.symm)) hb); have n1_ := aM (Kd.R_below (Kd.R_up HO_628000.out) hb); have n2_ := aM (Kd.R_below (Kd.R_up HO_628001.out) hb); have n3_ := aM (Kd.R_below (Kd.R_elderB (Kd.R_up HO_628002.out) gb645 (Nat.le_of_eq hg.symm)) hb); have n4_ := aM (blk_below (kU BK627.out) hb); have n5_ := aM (below_step (bU HB.out) hb); have n6_ := aM (hbox); have n7_ := aM ((by rw [hg]; exact (below_size (bU HB.out)) : w.heap.size ≤ gb645)); have n8_ := aM ((by rw [hg]; exact (below_size (bU HB.out)) : w.heap.size ≤ gb645)); have n9_ := aM ((by rw [hg]; exact Nat.ne_of_lt (blk_lt (kU BK627.out)) : gb627 ≠ gb645)); have n10_ := aM ((by rw [hg]; exact Nat.ne_of_gt (blk_lt (kU BK627.out)) : gb645 ≠ gb627)); clear HO_122; clear HO_628000; clear HO_628001; clear HO_628002; clear BK627; clear HB; have HO_122 := n0_; have HO_628000 := n1_; have HO_628001 := n2_; have HO_628002 := n3_; have BK627 := n4_; have HB := n5_; have BK645 := n6_; have GW645 := n7_; have GE645 := n8_; have NB627_645 := n9_; have NB645_627 := n10_; clear n0_ n1_ n2_ n3_ n4_ n5_ n6_ n7_ n8_ n9_ n10_; clear hb hbox hg; have hnb70 := NB645_627.out; have hnc70 := NB627_645.out; obtain ⟨hcz71_0, hcz71_1, hfz71_0, hfz71_1⟩ := cz2 BK645.out; obtain ⟨hcz72_0, hcz72_1, hcz72_2, hfz72_0, hfz72_1, hfz72_2⟩ := cz3 BK627.out) | ((with_reducible refine gate_callee (f := 19) rfl ?_); refine goesLq (some 134) rfl rfl Tryd.func19 #[.agg #[.slice Ao8 t618.length co8, .slice Ao10 t621.length co10, .slice (some ad644) t624.length co11], .int .i64 ((rd_T38 t624 x124_2).f0), .int .i64 ((rd_T38 t624 x124_2).f1)] rfl ?_; (with_reducible refine (party_Connected.calls k2 _ _ t618 _ _ t621 _ _ t624 ((rd_T38 t624 x124_2).f0) ((rd_T38 t624 x124_2).f1) false t647 _ ?side1 ?side2 ?side3 ?side4 ?side5 ?side6 A62.out).mono ?_); (case side1 => refine (Kd.R_reads' (e := 3) (base := w.heap.size) (ok := fun k_ => True) (n := t618.length) (c := co8) ?_).2.2; exact (Kd.R_up ((Kd.R_mono (Kd.R_far (p := ⟨gb645, 1, none⟩) (Kd.R_far (p := ⟨gb645, 0, none⟩) (Kd.R_types HO_628000.out BK645.out (by decide)) (fun _ hk => hk.2) (.int .i64 ((rd_T38 t624 x124_2).f0))) (fun _ hk => hk.2) (.int .i64 ((rd_T38 t624 x124_2).f1))) (fun _ h_ => h_.1))))); (case side2 => exact (Kd.R_reads' HO_628000.out).2.1); (case side3 => refine (Kd.R_reads' (e := 36) (base := w.heap.size) (ok := fun k_ => True) (n := t621.length) (c := co10) ?_).2.2; exact (Kd.R_up ((Kd.R_mono (Kd.R_far (p := ⟨gb645, 1, none⟩) (Kd.R_far (p := ⟨gb645, 0, none⟩) (Kd.R_types HO_628001.out BK645.out (by decide)) (fun _ hk => hk.2) (.int .i64 ((rd_T38 t624 x124_2).f0))) (fun _ hk => hk.2) (.int .i64 ((rd_T38 t624 x124_2).f1))) (fun _ h_ => h_.1))))); (case side4 => exact (Kd.R_reads' HO_628001.out).2.1); (case side5 => refine (Kd.R_reads' (e := 38) (base := w.heap.size) (ok := fun k_ => (True ∧ k_ ≠ gb645)) (n := t624.length) (c := co11) ?_).2.2; exact (Kd.R_up ((Kd.R_mono (Kd.R_far (p := ⟨gb645, 1, none⟩) (Kd.R_far (p := ⟨gb645, 0, none⟩) (Kd.R_mono HO_628002.out (fun k_ hk => (⟨hk, hk.2⟩ : _ ∧ k_ ≠ gb645))) (fun _ hk => hk.2) (.int .i64 ((rd_T38 t624 x124_2).f0))) (fun _ hk => hk.2) (.int .i64 ((rd_T38 t624 x124_2).f1))) (fun _ h_ => h_.1))))); (case side6 => exact (Kd.R_reads' HO_628002.out).2.1); rintro e w73 ⟨rfl, hb⟩; refine ⟨_, rfl, ?_⟩; have n0_ := aM (Kd.R_below (Kd.R_up ((Kd.R_mono (Kd.R_far (p := ⟨gb645, 1, none⟩) (Kd.R_far (p := ⟨gb645, 0, none⟩) (Kd.R_mono HO_122.out (fun k_ hk => (⟨hk, hk.2⟩ : _ ∧ k_ ≠ gb645))) (fun _ hk => hk.2) (.int .i64 ((rd_T38 t624 x124_2).f0))) (fun _ hk => hk.2) (.int .i64 ((rd_T38 t624 x124_2).f1))) (fun _ h_ => h_.1)))) hb); have n1_ := aM (Kd.R_below (Kd.R_up ((Kd.R_mono (Kd.R_far (p := ⟨gb645, 1, none⟩) (Kd.R_far (p := ⟨gb645, 0, none⟩) (Kd.R_types HO_628000.out BK645.out (by decide)) (fun _ hk => hk.2) (.int .i64 ((rd_T38 t624 x124_2).f0))) (fun _ hk => hk.2) (.int .i64 ((rd_T38 t624 x124_2).f1))) (fun _ h_ => h_.1)))) hb); have n2_ := aM (Kd.R_below (Kd.R_up ((Kd.R_mono (Kd.R_far (p := ⟨gb645, 1, none⟩) (Kd.R_far (p := ⟨gb645, 0, none⟩) (Kd.R_types HO_628001.out BK645.out (by decide)) (fun _ hk => hk.2) (.int .i64 ((rd_T38 t624 x124_2).f0))) (fun _ hk => hk.2) (.int .i64 ((rd_T38 t624 x124_2).f1))) (fun _ h_ => h_.1)))) hb); have n3_ := aM (Kd.R_below (Kd.R_up ((Kd.R_mono (Kd.R_far (p := ⟨gb645, 1, none⟩) (Kd.R_far (p := ⟨gb645, 0, none⟩) (Kd.R_mono HO_628002.out (fun k_ hk => (⟨hk, hk.2⟩ : _ ∧ k_ ≠ gb645))) (fun _ hk => hk.2) (.int .i64 ((rd_T38 t624 x124_2).f0))) (fun _ hk => hk.2) (.int .i64 ((rd_T38 t624 x124_2).f1))) (fun _ h_ => h_.1)))) hb); have n4_ := aM (blk_below (g := gb627) (o := .cells #[.slice Ao8 t618.length co8, .slice Ao10 t621.length co10, .slice (some ad644) t624.length co11] 26 (0, 0)) (kP BK627.out) hb); have n5_ := aM (blk_below (g := gb645) (o := .cells #[.int .i64 ((rd_T38 t624 x124_2).f0), .int .i64 ((rd_T38 t624 x124_2).f1)] 38 (0, 0)) (kP BK645.out) hb); have n6_ := aM (below_step (bU HB.out) hb); clear HO_122; clear HO_628000; clear HO_628001; clear HO_628002; clear BK627; clear BK645; clear HB; have HO_122 := n0_; have HO_628000 := n1_; have HO_628001 := n2_; have HO_628002 := n3_; have BK627 := n4_; have BK645 := n5_; have HB := n6_; clear n0_ n1_ n2_ n3_ n4_ n5_ n6_; (try clear hb); (try clear hb2); (try clear hk); (try clear hi)))
          go_ret
          exact ⟨by first | rfl | (simp [errW_none, errW_some] <;> rfl) | (simp [*, errW_none, errW_some] <;> rfl), bU HB.out⟩
        ·rw [if_neg c61] at H
         exact absurd H (by simp)
       ·rw [if_neg c60] at H
        exact absurd H (by simp)
      ·rw [if_neg c59] at H
       have c59b0 := decide_eq_false c59
       clear c59
       replace H := bE H
       obtain ⟨t648, A740, H⟩ := H
       replace H : (some t648) = some r := H
       have A74 := Aside0.mk A740
       clear A740
       obtain rfl := Option.some.inj H
       go_wp2_with (first | ((with_reducible refine gate_callee (f := 10) rfl ?_); refine goesLq (some 140) rfl rfl Tryd.func10 #[] rfl ?_; (with_reducible refine (insolvencylaw8_awake.calls k2  t648 _ A74.out).mono ?_); rintro e w75 ⟨rfl, hb⟩; refine ⟨_, rfl, ?_⟩; have n0_ := aM (Kd.R_below (Kd.R_up HO_122.out) hb); have n1_ := aM (Kd.R_below (Kd.R_up HO_628000.out) hb); have n2_ := aM (Kd.R_below (Kd.R_up HO_628001.out) hb); have n3_ := aM (Kd.R_below (Kd.R_up HO_628002.out) hb); have n4_ := aM (blk_below (kU BK627.out) hb); have n5_ := aM (below_step (bU HB.out) hb); clear HO_122; clear HO_628000; clear HO_628001; clear HO_628002; clear BK627; clear HB; have HO_122 := n0_; have HO_628000 := n1_; have HO_628001 := n2_; have HO_628002 := n3_; have BK627 := n4_; have HB := n5_; clear n0_ n1_ n2_ n3_ n4_ n5_; (try clear hb); (try clear hb2); (try clear hk); (try clear hi)))
       go_ret
       exact ⟨by first | rfl | (simp [errW_none, errW_some] <;> rfl) | (simp [*, errW_none, errW_some] <;> rfl), bU HB.out⟩

end Go.Proofs.YtjeamaahhpbbkaaDoor.PAll
