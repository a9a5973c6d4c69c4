-- PRINTED by a session's own changed print
import Derived.Test.YtjeamaahhpbbkaaDoorPAllx0
import Derived.Test.YtjeamaahhpbbkaaDoorPAllx14
namespace Go.Proofs.YtjeamaahhpbbkaaDoor.PAll
open Go.RowKit Go.Proofs.YtjeamaahhpbbkaaDoorW.PrintWords Go.Proofs.YtjeamaahhpbbkaaDoorW.PrintLast
set_option linter.unusedVariables false
set_option linter.unusedSimpArgs false

/-! ### party_connected: function 37 -/
mutual
def party_connected.l0 : Nat → Int → List Bool → List (S38) → Int → Int → List Int → List (S36) → List (S38) → Option (List Bool)
 | 0, _, _, _, _, _, _, _, _ => none
 | k + 1, x1, x5, x19, x20, x21, x593000, x593001, x593002 => if x21 < x20 then (if 0 ≤ x21 then (if x21 < (x19.length : Int) then (if ((rd_T38 x19 x21).f0) = x1 then (if 0 ≤ ((rd_T38 x19 x21).f1) then (if ((rd_T38 x19 x21).f1) < (x5.length : Int) then ((some (x5.set (((rd_T38 x19 x21).f1) : Int).toNat true : List Bool)).bind fun y599 => (if ((rd_T38 x19 x21).f1) = x1 then (if 0 ≤ ((rd_T38 x19 x21).f0) then (if ((rd_T38 x19 x21).f0) < (x5.length : Int) then (party_connected.l0 k x1 (y599.set (((rd_T38 x19 x21).f0) : Int).toNat true) x19 x20 (wrap64 (x21 + 1)) x593000 x593001 x593002) else (none)) else (none)) else (party_connected.l0 k x1 y599 x19 x20 (wrap64 (x21 + 1)) x593000 x593001 x593002))) else (none)) else (none)) else (if ((rd_T38 x19 x21).f1) = x1 then (if 0 ≤ ((rd_T38 x19 x21).f0) then (if ((rd_T38 x19 x21).f0) < (x5.length : Int) then (party_connected.l0 k x1 (x5.set (((rd_T38 x19 x21).f0) : Int).toNat true) x19 x20 (wrap64 (x21 + 1)) x593000 x593001 x593002) else (none)) else (none)) else (party_connected.l0 k x1 x5 x19 x20 (wrap64 (x21 + 1)) x593000 x593001 x593002))) else (none)) else (none)) else (party_connected.l1 k x1 x5 (x593000.length : Int) 0 x593000 x593001 x593002)
def party_connected.l1 : Nat → Int → List Bool → Int → Int → List Int → List (S36) → List (S38) → Option (List Bool)
 | 0, _, _, _, _, _, _, _ => none
 | k + 1, x1, x5, x44, x45, x593000, x593001, x593002 => if x45 < x44 then ((party_controlled.f k x593000 x593001 x593002 x45).bind fun t602 => (if 0 ≤ x1 then (if x1 < (t602.length : Int) then (if rdOf false t602 x1 = true then (if 0 ≤ x45 then (if x45 < (x5.length : Int) then (party_connected.l2 k x1 (x5.set (x45 : Int).toNat true) x44 x45 t602 (t602.length : Int) 0 x593000 x593001 x593002) else (none)) else (none)) else (party_connected.l1 k x1 x5 x44 (wrap64 (x45 + 1)) x593000 x593001 x593002)) else (none)) else (none))) else (some x5)
def party_connected.l2 : Nat → Int → List Bool → Int → Int → List Bool → Int → Int → List Int → List (S36) → List (S38) → Option (List Bool)
 | 0, _, _, _, _, _, _, _, _, _, _ => none
 | k + 1, x1, x5, x44, x45, x59, x60, x61, x593000, x593001, x593002 => if x61 < x60 then (if 0 ≤ x61 then (if x61 < (x59.length : Int) then (if x61 < (x5.length : Int) then (if rdOf false x5 x61 = true then (party_connected.l2 k x1 (x5.set (x61 : Int).toNat true) x44 x45 x59 x60 (wrap64 (x61 + 1)) x593000 x593001 x593002) else (party_connected.l2 k x1 (x5.set (x61 : Int).toNat (rdOf false x59 x61)) x44 x45 x59 x60 (wrap64 (x61 + 1)) x593000 x593001 x593002)) else (none)) else (none)) else (none)) else (party_connected.l1 k x1 x5 x44 (wrap64 (x45 + 1)) x593000 x593001 x593002)
end
def party_connected.f (k : Nat) (l0_0 : List Int) (l0_1 : List (S36)) (l0_2 : List (S38)) (a1 : Int) : Option (List Bool) := (party_controlled.f k l0_0 l0_1 l0_2 a1).bind fun t593 => (if 0 ≤ a1 then (if a1 < (t593.length : Int) then (party_connected.l0 k a1 (t593.set (a1 : Int).toNat true) l0_2 (l0_2.length : Int) 0 l0_0 l0_1 l0_2) else (none)) else (none))
set_option maxHeartbeats 8000000 in
set_option maxRecDepth 100000 in
theorem party_connected.calls (k : Nat) (A0_0 : Option Addr) (c0_0 : Nat) (l0_0 : List Int) (A0_1 : Option Addr) (c0_1 : Nat) (l0_1 : List (S36)) (A0_2 : Option Addr) (c0_2 : Nat) (l0_2 : List (S38)) (a1 : Int) (r : List Bool) (w : World) (hr0_0 : Kd.C (Kd.int .i64) w A0_0 l0_0.length l0_0) (hc0_0 : l0_0.length ≤ c0_0) (hr0_1 : Kd.C k36 w A0_1 l0_1.length l0_1) (hc0_1 : l0_1.length ≤ c0_1) (hr0_2 : Kd.C k38 w A0_2 l0_2.length l0_2) (hc0_2 : l0_2.length ≤ c0_2) (h : party_connected.f k l0_0 l0_1 l0_2 a1 = some r) :
  Calls Tryd.prog 37 #[.agg #[.slice A0_0 l0_0.length c0_0, .slice A0_1 l0_1.length c0_1, .slice A0_2 l0_2.length c0_2], .int .i64 a1] w fun e w' => ∃ v0_ : Value, e = .returned (v0_) ∧ Kd.R Kd.bool 4 w' w.heap.size (fun _ => True) v0_ r ∧ Below w.heap.size w w' := by
 have hu26 := Tryd.underlying26
 have hu38 := Tryd.underlying38
 have HR0_0 := Aside0.mk hr0_0
 have HC0_0 := Aside0.mk hc0_0
 clear hr0_0 hc0_0
 have HR0_1 := Aside0.mk hr0_1
 have HC0_1 := Aside0.mk hc0_1
 clear hr0_1 hc0_1
 have HR0_2 := Aside0.mk hr0_2
 have HC0_2 := Aside0.mk hc0_2
 clear hr0_2 hc0_2
 have HB := aM (Below.refl w.heap.size w)
 have H : ((party_controlled.f k l0_0 l0_1 l0_2 a1).bind fun t593 => (if 0 ≤ a1 then (if a1 < (t593.length : Int) then (party_connected.l0 k a1 (t593.set (a1 : Int).toNat true) l0_2 (l0_2.length : Int) 0 l0_0 l0_1 l0_2) else (none)) else (none))) = some r := h
 clear h
 replace H := bE H
 obtain ⟨t593, A30, H⟩ := H
 replace H : (if 0 ≤ a1 then (if a1 < (t593.length : Int) then (party_connected.l0 k a1 (t593.set (a1 : Int).toNat true) l0_2 (l0_2.length : Int) 0 l0_0 l0_1 l0_2) else (none)) else (none)) = some r := H
 have A3 := Aside0.mk A30
 clear A30
 by_cases c4 : 0 ≤ a1
 ·rw [if_pos c4] at H
  have c4b0 := decide_eq_true c4
  clear c4
  by_cases c5 : a1 < (t593.length : Int)
  ·rw [if_pos c5] at H
   have c5b0 := decide_eq_true c5
   clear c5
   obtain ⟨y596, hy596⟩ : ∃ y_ : List Bool, y_ = (t593.set (a1 : Int).toNat true) := ⟨_, rfl⟩
   replace H : (party_connected.l0 k a1 y596 l0_2 (l0_2.length : Int) 0 l0_0 l0_1 l0_2) = some r := by first | (rw [hy596]; with_reducible exact H) | (have H2_ := (Option.bind_some _ _).symm.trans H; rw [hy596]; with_reducible exact H2_) | (have H2_ := (Option.bind_some _ _).symm.trans H; with_reducible exact H2_) | with_reducible exact H | (rw [hy596]; exact H) | exact H
   have Ny596 := Aside0.mk hy596
   clear hy596
   have H' := Aside0.mk H
   clear H
   go_enter Tryd.func37, Tryd.ntmps37
   go_wp2_with (first | ((with_reducible refine gate_dst (N := 2) rfl ?_); refine box_event ?hg (N := 2) ?hd (cs := #[.slice A0_0 l0_0.length c0_0, .slice A0_1 l0_1.length c0_1, .slice A0_2 l0_2.length c0_2]) (t := 26) ?hr ?_; (case hd => rfl); (case hg => rfl); (case hr => first | (go_simp; done) | (go_simp; rfl)); intro gb592 hg w7 hbox hb; have n0_ := aM (below_step (bU HB.out) hb); have n1_ := aM (hbox); have n2_ := aM ((by rw [hg]; exact (below_size (bU HB.out)) : w.heap.size ≤ gb592)); have n3_ := aM ((by rw [hg]; exact (below_size (bU HB.out)) : w.heap.size ≤ gb592)); clear HB; have HB := n0_; have BK592 := n1_; have GW592 := n2_; have GE592 := n3_; clear n0_ n1_ n2_ n3_; clear hb hbox hg; obtain ⟨hcz8_0, hcz8_1, hcz8_2, hfz8_0, hfz8_1, hfz8_2⟩ := cz3 BK592.out) | ((with_reducible refine gate_callee (f := 31) rfl ?_); refine goesLq (some 14) rfl rfl Tryd.func31 #[.agg #[.slice A0_0 l0_0.length c0_0, .slice A0_1 l0_1.length c0_1, .slice A0_2 l0_2.length c0_2], .int .i64 a1] rfl ?_; (with_reducible refine (party_controlled.calls k _ _ l0_0 _ _ l0_1 _ _ l0_2 a1 t593 _ ?side1 ?side2 ?side3 ?side4 ?side5 ?side6 A3.out).mono ?_); (case side1 => exact Kd.C_up (Kd.C_below HR0_0.out HB.out)); (case side2 => exact HC0_0.out); (case side3 => exact Kd.C_up (Kd.C_below HR0_1.out HB.out)); (case side4 => exact HC0_1.out); (case side5 => exact Kd.C_up (Kd.C_below HR0_2.out HB.out)); (case side6 => exact HC0_2.out); rintro e w9 ⟨v594, rfl, ho0, hb⟩; refine ⟨_, rfl, ?_⟩; have n0_ := aM (Kd.R_lower ho0 (below_size (bU HB.out))); have n1_ := aM (blk_below (kU BK592.out) hb); have n2_ := aM (below_step (bU HB.out) hb); clear BK592; clear HB; have HO595 := n0_; have BK592 := n1_; have HB := n2_; clear n0_ n1_ n2_; (try clear hb); (try clear hb2); (try clear hk); (try clear hi); (try clear ho0); have p6 : 0 ≤ (a1 : Int) := oD; have q6 : (a1 : Int) < ((t593.length : Int) : Int) := oD; obtain ⟨go6, co6, eo6, gb6, gl6, cl6, HG6⟩ := Kd.R_form HO595.out (by omega); (first | cases eo6 | (injection eo6 with ea_ en_ ec_; (first | subst ea_ | (injection ea_ with ea_; subst ea_)); subst ec_; clear en_)); have GB6 := Aside0.mk gb6; have GG6 := Aside0.mk HG6; clear gb6 gl6 HG6; obtain ⟨hx6_0, hf6_0⟩ := Kd.R_celln false HO595.out (a1 : Int) p6 q6; replace p6 := eq_true p6; replace q6 := eq_true q6; obtain ⟨hy10_, hz10_⟩ := Kd.R_celln false HO595.out (a1 : Int) (oD) (oD); have HP10 := Kd.R_putg HO595.out (a1 : Int) true) | ((with_reducible refine gate_store (t := 4) (p := 17) rfl ?_); refine store_event (t := 4) (p := 17) (v := ?vo_w11) (w1 := (w9.setCell ⟨go6, (a1 : Int).toNat, none⟩ (.bool true))) ?hg ?ho ?hn ?hr ?_; (case ho => rfl); (case hg => rfl); (case hn => rfl); (case hr => first | (go_simp; done) | (go_simp; rfl)); intro w11 hw; have hg : w9.grownBy w11 (some go6) := (by rw [hw]; exact HP10.2); have hp_ : Kd.R Kd.bool 4 w11 w.heap.size (fun _ => True) (.slice (some ⟨go6, 0, none⟩) t593.length co6) y596 := (by rw [hw, Ny596.out]; exact HP10.1); clear HP10; have n0_ := aM (blk_grown (kU BK592.out) hg (Kd.R_ne HO595.out BK592.out (by decide))); have n1_ := aM (hp_); have n2_ := aM ((by rw [hw]; exact below_set (HB.out) GB6.out : Below w.heap.size w w11)); clear BK592; clear HO595; clear HB; have BK592 := n0_; have HO595 := n1_; have HB := n2_; clear n0_ n1_ n2_; clear hg hw hp_; obtain ⟨hcz12_0, hcz12_1, hcz12_2, hfz12_0, hfz12_1, hfz12_2⟩ := cz3 BK592.out))
   go_loopg [21] k (fun kq v21 w' => ∃ (x5_1 : List Bool) (x21_1 : Int), v21 = .int .i64 x21_1 ∧ Aside0 (party_connected.l0 kq a1 x5_1 l0_2 (l0_2.length : Int) x21_1 l0_0 l0_1 l0_2 = some r) ∧ Aside0 (kq ≤ k) ∧ Aside0 (Kd.R Kd.bool 4 w' w.heap.size (fun _ => True) (.slice (some ⟨go6, 0, none⟩) t593.length co6) x5_1) ∧ Aside0 (w'.heap[gb592]? = some (.cells #[(.slice A0_0 l0_0.length c0_0), (.slice A0_1 l0_1.length c0_1), (.slice A0_2 l0_2.length c0_2)] 26 (0, 0))) ∧ Aside0 (Below w.heap.size w w'))
   case atStart => exact ⟨(y596), (0), (by first | rfl | (simp; done) | (simp [*]; done)), H', ⟨Nat.le_refl _⟩, ⟨Kd.R_up HO595.out⟩, ⟨kU BK592.out⟩, ⟨bU HB.out⟩⟩
   case round =>
    clear H'
    (try clear p2); (try clear c3); (try clear c4); (try clear c4b0); (try clear c5); (try clear c5b0); (try clear p6); (try clear q6); (try clear hx6); (try clear hf6); (try clear hcz12_0 hcz12_1 hcz12_2); (try clear hcz8_0 hcz8_1 hcz8_2); (try clear hfz12_0 hfz12_1 hfz12_2); (try clear hfz8_0 hfz8_1 hfz8_2); (try clear hx6_0); (try clear p6); (try clear q6)
    obtain ⟨x5_1, x21_1, rfl, HA, HK1, HO_5, BK592, HB⟩ := hrel
    have hl5_1 := (Kd.R_reads' HO_5.out).1
    rw [hl5_1] at HO_5
    (try simp only [hl5_1])
    (try simp only [hl5_1] at BK592)
    cases gk with
    | zero => exact absurd HA.out (by simp [party_connected.l0])
    | succ k1 =>
     have H := HA.out
     clear HA
     simp only [party_connected.l0] at H
     by_cases c13 : x21_1 < (l0_2.length : Int)
     ·rw [if_pos c13] at H
      have c13b0 := decide_eq_true c13
      clear c13
      by_cases c14 : 0 ≤ x21_1
      ·rw [if_pos c14] at H
       have c14b0 := decide_eq_true c14
       clear c14
       by_cases c15 : x21_1 < (l0_2.length : Int)
       ·rw [if_pos c15] at H
        have c15b0 := decide_eq_true c15
        clear c15
        by_cases c16 : ((rd_T38 l0_2 x21_1).f0) = a1
        ·rw [if_pos c16] at H
         have c16b0 : (((rd_T38 l0_2 x21_1).f0) == a1) = true := beq_iff_eq.mpr c16
         have c16b1 : (((rd_T38 l0_2 x21_1).f0) != a1) = false := bne_eq_false_iff_eq.mpr c16
         clear c16
         by_cases c17 : 0 ≤ ((rd_T38 l0_2 x21_1).f1)
         ·rw [if_pos c17] at H
          have c17b0 := decide_eq_true c17
          clear c17
          by_cases c18 : ((rd_T38 l0_2 x21_1).f1) < (x5_1.length : Int)
          ·rw [if_pos c18] at H
           have c18b0 := decide_eq_true c18
           clear c18
           obtain ⟨y599, hy599⟩ : ∃ y_ : List Bool, y_ = (x5_1.set (((rd_T38 l0_2 x21_1).f1) : Int).toNat true) := ⟨_, rfl⟩
           replace H : (if ((rd_T38 l0_2 x21_1).f1) = a1 then (if 0 ≤ ((rd_T38 l0_2 x21_1).f0) then (if ((rd_T38 l0_2 x21_1).f0) < (x5_1.length : Int) then (party_connected.l0 k1 a1 (y599.set (((rd_T38 l0_2 x21_1).f0) : Int).toNat true) l0_2 (l0_2.length : Int) (wrap64 (x21_1 + 1)) l0_0 l0_1 l0_2) else (none)) else (none)) else (party_connected.l0 k1 a1 y599 l0_2 (l0_2.length : Int) (wrap64 (x21_1 + 1)) l0_0 l0_1 l0_2)) = some r := by first | (rw [hy599]; with_reducible exact H) | (have H2_ := (Option.bind_some _ _).symm.trans H; rw [hy599]; with_reducible exact H2_) | (have H2_ := (Option.bind_some _ _).symm.trans H; with_reducible exact H2_) | with_reducible exact H | (rw [hy599]; exact H) | exact H
           have Ny599 := Aside0.mk hy599
           clear hy599
           by_cases c20 : ((rd_T38 l0_2 x21_1).f1) = a1
           ·rw [if_pos c20] at H
            have c20b0 : (((rd_T38 l0_2 x21_1).f1) == a1) = true := beq_iff_eq.mpr c20
            have c20b1 : (((rd_T38 l0_2 x21_1).f1) != a1) = false := bne_eq_false_iff_eq.mpr c20
            clear c20
            by_cases c21 : 0 ≤ ((rd_T38 l0_2 x21_1).f0)
            ·rw [if_pos c21] at H
             have c21b0 := decide_eq_true c21
             clear c21
             by_cases c22 : ((rd_T38 l0_2 x21_1).f0) < (x5_1.length : Int)
             ·rw [if_pos c22] at H
              have c22b0 := decide_eq_true c22
              clear c22
              obtain ⟨y600, hy600⟩ : ∃ y_ : List Bool, y_ = (y599.set (((rd_T38 l0_2 x21_1).f0) : Int).toNat true) := ⟨_, rfl⟩
              replace H : (party_connected.l0 k1 a1 y600 l0_2 (l0_2.length : Int) (wrap64 (x21_1 + 1)) l0_0 l0_1 l0_2) = some r := by first | (rw [hy600]; with_reducible exact H) | (have H2_ := (Option.bind_some _ _).symm.trans H; rw [hy600]; with_reducible exact H2_) | (have H2_ := (Option.bind_some _ _).symm.trans H; with_reducible exact H2_) | with_reducible exact H | (rw [hy600]; exact H) | exact H
              have Ny600 := Aside0.mk hy600
              clear hy600
              have H' := Aside0.mk H
              clear H
              have p597 : 0 ≤ (x21_1 : Int) := oD
              have q597 : x21_1 < (l0_2.length : Int) := oD
              obtain ⟨ad597, e597, hx597_0, hx597_1⟩ := at_T38 HR0_2.out x21_1 p597 q597
              cases e597
              replace hx597_0 := (HB.out.cell (World.block_lt_of_cell? w _ hx597_0)).trans hx597_0
              replace hx597_1 := (HB.out.cell (World.block_lt_of_cell? w _ hx597_1)).trans hx597_1
              replace p597 := eq_true p597
              replace q597 := eq_true q597
              go_wp2_with (first | ((with_reducible refine gate_dst (N := 7) rfl ?_); refine box_event ?hg (N := 7) ?hd (cs := #[.int .i64 0, .int .i64 0]) (t := 38) ?hr ?_; (case hd => rfl); (case hg => rfl); (case hr => first | (go_simp; done) | (go_simp; rfl)); intro gb598 hg w24 hbox hb; have n0_ := aM (Kd.R_below (Kd.R_up HO_5.out) hb); have n1_ := aM (blk_below (kU BK592.out) hb); have n2_ := aM (below_step (bU HB.out) hb); have n3_ := aM (hbox); have n4_ := aM ((by rw [hg]; exact (below_size (bU HB.out)) : w.heap.size ≤ gb598)); have n5_ := aM ((by rw [hg]; exact (below_size (bU HB.out)) : w.heap.size ≤ gb598)); have n6_ := aM ((by rw [hg]; exact Nat.ne_of_lt (blk_lt (kU BK592.out)) : gb592 ≠ gb598)); have n7_ := aM ((by rw [hg]; exact Nat.ne_of_gt (blk_lt (kU BK592.out)) : gb598 ≠ gb592)); clear HO_5; clear BK592; clear HB; have HO_5 := n0_; have BK592 := n1_; have HB := n2_; have BK598 := n3_; have GW598 := n4_; have GE598 := n5_; have NB592_598 := n6_; have NB598_592 := n7_; clear n0_ n1_ n2_ n3_ n4_ n5_ n6_ n7_; clear hb hbox hg; have hnb25 := NB598_592.out; have hnc25 := NB592_598.out; obtain ⟨hcz26_0, hcz26_1, hfz26_0, hfz26_1⟩ := cz2 BK598.out) | ((with_reducible refine gate_store (t := 38) (p := 7) rfl ?_); refine store_event (t := 38) (p := 7) (v := ?vo_w27) (w1 := ((w24.setCell ⟨gb598, 0, none⟩ (.int .i64 ((rd_T38 l0_2 x21_1).f0))).setCell ⟨gb598, 1, none⟩ (.int .i64 ((rd_T38 l0_2 x21_1).f1)))) ?hg ?ho ?hn ?hr ?_; (case ho => rfl); (case hg => rfl); (case hn => rfl); (case hr => first | (go_simp; done) | (go_simp; rfl)); intro w27 hw; have n0_ : Aside0 (Kd.R Kd.bool 4 w27 w.heap.size (fun _ => True) (.slice (some ⟨go6, 0, none⟩) x5_1.length co6) x5_1) := ⟨(by rw [hw]; exact (Kd.R_up (Kd.R_mono (Kd.R_far (p := ⟨gb598, 1, none⟩) (Kd.R_far (p := ⟨gb598, 0, none⟩) (Kd.R_types HO_5.out BK598.out (by decide)) (fun _ hk => hk.2) (.int .i64 ((rd_T38 l0_2 x21_1).f0))) (fun _ hk => hk.2) (.int .i64 ((rd_T38 l0_2 x21_1).f1))) (fun _ hk => trivial))))⟩; have n1_ : Aside0 (w27.heap[gb592]? = some (.cells #[.slice A0_0 l0_0.length c0_0, .slice A0_1 l0_1.length c0_1, .slice (some ad597) l0_2.length c0_2] 26 (0, 0))) := ⟨(by rw [hw]; exact (kP BK592.out))⟩; have n2_ : Aside0 (w27.heap[gb598]? = some (.cells #[.int .i64 ((rd_T38 l0_2 x21_1).f0), .int .i64 ((rd_T38 l0_2 x21_1).f1)] 38 (0, 0))) := ⟨(by rw [hw]; exact (kP BK598.out))⟩; have n3_ : Aside0 (Below w.heap.size w w27) := ⟨(by rw [hw]; exact (bU HB.out))⟩; clear hw; clear HO_5; clear BK592; clear BK598; clear HB; have HO_5 := n0_; have BK592 := n1_; have BK598 := n2_; have HB := n3_; clear n0_ n1_ n2_ n3_; obtain ⟨hcz28_0, hcz28_1, hfz28_0, hfz28_1⟩ := cz2 BK598.out; have p19 : 0 ≤ (((rd_T38 l0_2 x21_1).f1) : Int) := oD; have q19 : (((rd_T38 l0_2 x21_1).f1) : Int) < ((x5_1.length : Int) : Int) := oD; obtain ⟨hx19_0, hf19_0⟩ := Kd.R_celln false HO_5.out (((rd_T38 l0_2 x21_1).f1) : Int) p19 q19; replace p19 := eq_true p19; replace q19 := eq_true q19; obtain ⟨hy29_, hz29_⟩ := Kd.R_celln false HO_5.out (((rd_T38 l0_2 x21_1).f1) : Int) (oD) (oD); have HP29 := Kd.R_putg HO_5.out (((rd_T38 l0_2 x21_1).f1) : Int) true) | ((with_reducible refine gate_store (t := 4) (p := 32) rfl ?_); refine store_event (t := 4) (p := 32) (v := ?vo_w30) (w1 := (w27.setCell ⟨go6, (((rd_T38 l0_2 x21_1).f1) : Int).toNat, none⟩ (.bool true))) ?hg ?ho ?hn ?hr ?_; (case ho => rfl); (case hg => rfl); (case hn => rfl); (case hr => first | (go_simp; done) | (go_simp; rfl)); intro w30 hw; have hg : w27.grownBy w30 (some go6) := (by rw [hw]; exact HP29.2); have hp_ : Kd.R Kd.bool 4 w30 w.heap.size (fun _ => True) (.slice (some ⟨go6, 0, none⟩) x5_1.length co6) y599 := (by rw [hw, Ny599.out]; exact HP29.1); clear HP29; have n0_ := aM (hp_); have n1_ := aM (blk_grown (kU BK592.out) hg (Kd.R_ne HO_5.out BK592.out (by decide))); have n2_ := aM (blk_grown (kU BK598.out) hg (Kd.R_ne HO_5.out BK598.out (by decide))); have n3_ := aM ((by rw [hw]; exact below_set (HB.out) GB6.out : Below w.heap.size w w30)); clear HO_5; clear BK592; clear BK598; clear HB; have HO_5 := n0_; have BK592 := n1_; have BK598 := n2_; have HB := n3_; clear n0_ n1_ n2_ n3_; clear hg hw hp_; obtain ⟨hcz31_0, hcz31_1, hfz31_0, hfz31_1⟩ := cz2 BK598.out; have p23 : 0 ≤ (((rd_T38 l0_2 x21_1).f0) : Int) := oD; have q23 : (((rd_T38 l0_2 x21_1).f0) : Int) < ((x5_1.length : Int) : Int) := oD; obtain ⟨hx23_0, hf23_0⟩ := Kd.R_celln false HO_5.out (((rd_T38 l0_2 x21_1).f0) : Int) p23 q23; replace p23 := eq_true p23; replace q23 := eq_true q23; obtain ⟨hy32_, hz32_⟩ := Kd.R_celln false HO_5.out (((rd_T38 l0_2 x21_1).f0) : Int) (oD) (oD); have HP32 := Kd.R_putg HO_5.out (((rd_T38 l0_2 x21_1).f0) : Int) true) | ((with_reducible refine gate_store (t := 4) (p := 40) rfl ?_); refine store_event (t := 4) (p := 40) (v := ?vo_w33) (w1 := (w30.setCell ⟨go6, (((rd_T38 l0_2 x21_1).f0) : Int).toNat, none⟩ (.bool true))) ?hg ?ho ?hn ?hr ?_; (case ho => rfl); (case hg => rfl); (case hn => rfl); (case hr => first | (go_simp; done) | (go_simp; rfl)); intro w33 hw; have hg : w30.grownBy w33 (some go6) := (by rw [hw]; exact HP32.2); have hp_ : Kd.R Kd.bool 4 w33 w.heap.size (fun _ => True) (.slice (some ⟨go6, 0, none⟩) x5_1.length co6) y600 := (by rw [hw, Ny600.out]; exact HP32.1); clear HP32; have n0_ := aM (hp_); have n1_ := aM (blk_grown (kU BK592.out) hg (Kd.R_ne HO_5.out BK592.out (by decide))); have n2_ := aM (blk_grown (kU BK598.out) hg (Kd.R_ne HO_5.out BK598.out (by decide))); have n3_ := aM ((by rw [hw]; exact below_set (HB.out) GB6.out : Below w.heap.size w w33)); clear HO_5; clear BK592; clear BK598; clear HB; have HO_5 := n0_; have BK592 := n1_; have BK598 := n2_; have HB := n3_; clear n0_ n1_ n2_ n3_; clear hg hw hp_))
              (try simp only [← hl5_1])
              go_roundg k1
              case measure => have := HK1.out; omega
              case rel => exact ⟨(y600), (wrap64 (x21_1 + 1)), (by first | rfl | (simp; done) | (simp [*]; done)), H', ⟨by have := HK1.out; omega⟩, ⟨by (try simp only [hl5_1]); (with_reducible repeat (first | apply Kd.R_alloc | apply Kd.R_drewN | apply Kd.R_drew)); exact HO_5.out⟩, ⟨by (try simp only [hl5_1]); (with_reducible repeat (first | refine kN ?_ _ | refine kD ?_ | refine kA ?_ _)); exact BK592.out⟩, ⟨bU HB.out⟩⟩
             ·rw [if_neg c22] at H
              exact absurd H (by simp)
            ·rw [if_neg c21] at H
             exact absurd H (by simp)
           ·rw [if_neg c20] at H
            have c20b0 : (((rd_T38 l0_2 x21_1).f1) == a1) = false := beq_eq_false_iff_ne.mpr c20
            have c20b1 : (((rd_T38 l0_2 x21_1).f1) != a1) = true := bne_iff_ne.mpr c20
            have H' := Aside0.mk H
            clear H
            have p597 : 0 ≤ (x21_1 : Int) := oD
            have q597 : x21_1 < (l0_2.length : Int) := oD
            obtain ⟨ad597, e597, hx597_0, hx597_1⟩ := at_T38 HR0_2.out x21_1 p597 q597
            cases e597
            replace hx597_0 := (HB.out.cell (World.block_lt_of_cell? w _ hx597_0)).trans hx597_0
            replace hx597_1 := (HB.out.cell (World.block_lt_of_cell? w _ hx597_1)).trans hx597_1
            replace p597 := eq_true p597
            replace q597 := eq_true q597
            go_wp2_with (first | ((with_reducible refine gate_dst (N := 7) rfl ?_); refine box_event ?hg (N := 7) ?hd (cs := #[.int .i64 0, .int .i64 0]) (t := 38) ?hr ?_; (case hd => rfl); (case hg => rfl); (case hr => first | (go_simp; done) | (go_simp; rfl)); intro gb598 hg w34 hbox hb; have n0_ := aM (Kd.R_below (Kd.R_up HO_5.out) hb); have n1_ := aM (blk_below (kU BK592.out) hb); have n2_ := aM (below_step (bU HB.out) hb); have n3_ := aM (hbox); have n4_ := aM ((by rw [hg]; exact (below_size (bU HB.out)) : w.heap.size ≤ gb598)); have n5_ := aM ((by rw [hg]; exact (below_size (bU HB.out)) : w.heap.size ≤ gb598)); have n6_ := aM ((by rw [hg]; exact Nat.ne_of_lt (blk_lt (kU BK592.out)) : gb592 ≠ gb598)); have n7_ := aM ((by rw [hg]; exact Nat.ne_of_gt (blk_lt (kU BK592.out)) : gb598 ≠ gb592)); clear HO_5; clear BK592; clear HB; have HO_5 := n0_; have BK592 := n1_; have HB := n2_; have BK598 := n3_; have GW598 := n4_; have GE598 := n5_; have NB592_598 := n6_; have NB598_592 := n7_; clear n0_ n1_ n2_ n3_ n4_ n5_ n6_ n7_; clear hb hbox hg; have hnb35 := NB598_592.out; have hnc35 := NB592_598.out; obtain ⟨hcz36_0, hcz36_1, hfz36_0, hfz36_1⟩ := cz2 BK598.out) | ((with_reducible refine gate_store (t := 38) (p := 7) rfl ?_); refine store_event (t := 38) (p := 7) (v := ?vo_w37) (w1 := ((w34.setCell ⟨gb598, 0, none⟩ (.int .i64 ((rd_T38 l0_2 x21_1).f0))).setCell ⟨gb598, 1, none⟩ (.int .i64 ((rd_T38 l0_2 x21_1).f1)))) ?hg ?ho ?hn ?hr ?_; (case ho => rfl); (case hg => rfl); (case hn => rfl); (case hr => first | (go_simp; done) | (go_simp; rfl)); intro w37 hw; have n0_ : Aside0 (Kd.R Kd.bool 4 w37 w.heap.size (fun _ => True) (.slice (some ⟨go6, 0, none⟩) x5_1.length co6) x5_1) := ⟨(by rw [hw]; exact (Kd.R_up (Kd.R_mono (Kd.R_far (p := ⟨gb598, 1, none⟩) (Kd.R_far (p := ⟨gb598, 0, none⟩) (Kd.R_types HO_5.out BK598.out (by decide)) (fun _ hk => hk.2) (.int .i64 ((rd_T38 l0_2 x21_1).f0))) (fun _ hk => hk.2) (.int .i64 ((rd_T38 l0_2 x21_1).f1))) (fun _ hk => trivial))))⟩; have n1_ : Aside0 (w37.heap[gb592]? = some (.cells #[.slice A0_0 l0_0.length c0_0, .slice A0_1 l0_1.length c0_1, .slice (some ad597) l0_2.length c0_2] 26 (0, 0))) := ⟨(by rw [hw]; exact (kP BK592.out))⟩; have n2_ : Aside0 (w37.heap[gb598]? = some (.cells #[.int .i64 ((rd_T38 l0_2 x21_1).f0), .int .i64 ((rd_T38 l0_2 x21_1).f1)] 38 (0, 0))) := ⟨(by rw [hw]; exact (kP BK598.out))⟩; have n3_ : Aside0 (Below w.heap.size w w37) := ⟨(by rw [hw]; exact (bU HB.out))⟩; clear hw; clear HO_5; clear BK592; clear BK598; clear HB; have HO_5 := n0_; have BK592 := n1_; have BK598 := n2_; have HB := n3_; clear n0_ n1_ n2_ n3_; obtain ⟨hcz38_0, hcz38_1, hfz38_0, hfz38_1⟩ := cz2 BK598.out; have p19 : 0 ≤ (((rd_T38 l0_2 x21_1).f1) : Int) := oD; have q19 : (((rd_T38 l0_2 x21_1).f1) : Int) < ((x5_1.length : Int) : Int) := oD; obtain ⟨hx19_0, hf19_0⟩ := Kd.R_celln false HO_5.out (((rd_T38 l0_2 x21_1).f1) : Int) p19 q19; replace p19 := eq_true p19; replace q19 := eq_true q19; obtain ⟨hy39_, hz39_⟩ := Kd.R_celln false HO_5.out (((rd_T38 l0_2 x21_1).f1) : Int) (oD) (oD); have HP39 := Kd.R_putg HO_5.out (((rd_T38 l0_2 x21_1).f1) : Int) true) | ((with_reducible refine gate_store (t := 4) (p := 32) rfl ?_); refine store_event (t := 4) (p := 32) (v := ?vo_w40) (w1 := (w37.setCell ⟨go6, (((rd_T38 l0_2 x21_1).f1) : Int).toNat, none⟩ (.bool true))) ?hg ?ho ?hn ?hr ?_; (case ho => rfl); (case hg => rfl); (case hn => rfl); (case hr => first | (go_simp; done) | (go_simp; rfl)); intro w40 hw; have hg : w37.grownBy w40 (some go6) := (by rw [hw]; exact HP39.2); have hp_ : Kd.R Kd.bool 4 w40 w.heap.size (fun _ => True) (.slice (some ⟨go6, 0, none⟩) x5_1.length co6) y599 := (by rw [hw, Ny599.out]; exact HP39.1); clear HP39; have n0_ := aM (hp_); have n1_ := aM (blk_grown (kU BK592.out) hg (Kd.R_ne HO_5.out BK592.out (by decide))); have n2_ := aM (blk_grown (kU BK598.out) hg (Kd.R_ne HO_5.out BK598.out (by decide))); have n3_ := aM ((by rw [hw]; exact below_set (HB.out) GB6.out : Below w.heap.size w w40)); clear HO_5; clear BK592; clear BK598; clear HB; have HO_5 := n0_; have BK592 := n1_; have BK598 := n2_; have HB := n3_; clear n0_ n1_ n2_ n3_; clear hg hw hp_; obtain ⟨hcz41_0, hcz41_1, hfz41_0, hfz41_1⟩ := cz2 BK598.out))
            (try simp only [← hl5_1])
            go_roundg k1
            case measure => have := HK1.out; omega
            case rel => exact ⟨(y599), (wrap64 (x21_1 + 1)), (by first | rfl | (simp; done) | (simp [*]; done)), H', ⟨by have := HK1.out; omega⟩, ⟨by (try simp only [hl5_1]); (with_reducible repeat (first | apply Kd.R_alloc | apply Kd.R_drewN | apply Kd.R_drew)); exact HO_5.out⟩, ⟨by (try simp only [hl5_1]); (with_reducible repeat (first | refine kN ?_ _ | refine kD ?_ | refine kA ?_ _)); exact BK592.out⟩, ⟨bU HB.out⟩⟩
          ·rw [if_neg c18] at H
           exact absurd H (by simp)
         ·rw [if_neg c17] at H
          exact absurd H (by simp)
        ·rw [if_neg c16] at H
         have c16b0 : (((rd_T38 l0_2 x21_1).f0) == a1) = false := beq_eq_false_iff_ne.mpr c16
         have c16b1 : (((rd_T38 l0_2 x21_1).f0) != a1) = true := bne_iff_ne.mpr c16
         by_cases c42 : ((rd_T38 l0_2 x21_1).f1) = a1
         ·rw [if_pos c42] at H
          have c42b0 : (((rd_T38 l0_2 x21_1).f1) == a1) = true := beq_iff_eq.mpr c42
          have c42b1 : (((rd_T38 l0_2 x21_1).f1) != a1) = false := bne_eq_false_iff_eq.mpr c42
          clear c42
          by_cases c43 : 0 ≤ ((rd_T38 l0_2 x21_1).f0)
          ·rw [if_pos c43] at H
           have c43b0 := decide_eq_true c43
           clear c43
           by_cases c44 : ((rd_T38 l0_2 x21_1).f0) < (x5_1.length : Int)
           ·rw [if_pos c44] at H
            have c44b0 := decide_eq_true c44
            clear c44
            obtain ⟨y601, hy601⟩ : ∃ y_ : List Bool, y_ = (x5_1.set (((rd_T38 l0_2 x21_1).f0) : Int).toNat true) := ⟨_, rfl⟩
            replace H : (party_connected.l0 k1 a1 y601 l0_2 (l0_2.length : Int) (wrap64 (x21_1 + 1)) l0_0 l0_1 l0_2) = some r := by first | (rw [hy601]; with_reducible exact H) | (have H2_ := (Option.bind_some _ _).symm.trans H; rw [hy601]; with_reducible exact H2_) | (have H2_ := (Option.bind_some _ _).symm.trans H; with_reducible exact H2_) | with_reducible exact H | (rw [hy601]; exact H) | exact H
            have Ny601 := Aside0.mk hy601
            clear hy601
            have H' := Aside0.mk H
            clear H
            have p597 : 0 ≤ (x21_1 : Int) := oD
            have q597 : x21_1 < (l0_2.length : Int) := oD
            obtain ⟨ad597, e597, hx597_0, hx597_1⟩ := at_T38 HR0_2.out x21_1 p597 q597
            cases e597
            replace hx597_0 := (HB.out.cell (World.block_lt_of_cell? w _ hx597_0)).trans hx597_0
            replace hx597_1 := (HB.out.cell (World.block_lt_of_cell? w _ hx597_1)).trans hx597_1
            replace p597 := eq_true p597
            replace q597 := eq_true q597
            go_wp2_with (first | ((with_reducible refine gate_dst (N := 7) rfl ?_); refine box_event ?hg (N := 7) ?hd (cs := #[.int .i64 0, .int .i64 0]) (t := 38) ?hr ?_; (case hd => rfl); (case hg => rfl); (case hr => first | (go_simp; done) | (go_simp; rfl)); intro gb598 hg w46 hbox hb; have n0_ := aM (Kd.R_below (Kd.R_up HO_5.out) hb); have n1_ := aM (blk_below (kU BK592.out) hb); have n2_ := aM (below_step (bU HB.out) hb); have n3_ := aM (hbox); have n4_ := aM ((by rw [hg]; exact (below_size (bU HB.out)) : w.heap.size ≤ gb598)); have n5_ := aM ((by rw [hg]; exact (below_size (bU HB.out)) : w.heap.size ≤ gb598)); have n6_ := aM ((by rw [hg]; exact Nat.ne_of_lt (blk_lt (kU BK592.out)) : gb592 ≠ gb598)); have n7_ := aM ((by rw [hg]; exact Nat.ne_of_gt (blk_lt (kU BK592.out)) : gb598 ≠ gb592)); clear HO_5; clear BK592; clear HB; have HO_5 := n0_; have BK592 := n1_; have HB := n2_; have BK598 := n3_; have GW598 := n4_; have GE598 := n5_; have NB592_598 := n6_; have NB598_592 := n7_; clear n0_ n1_ n2_ n3_ n4_ n5_ n6_ n7_; clear hb hbox hg; have hnb47 := NB598_592.out; have hnc47 := NB592_598.out; obtain ⟨hcz48_0, hcz48_1, hfz48_0, hfz48_1⟩ := cz2 BK598.out) | ((with_reducible refine gate_store (t := 38) (p := 7) rfl ?_); refine store_event (t := 38) (p := 7) (v := ?vo_w49) (w1 := ((w46.setCell ⟨gb598, 0, none⟩ (.int .i64 ((rd_T38 l0_2 x21_1).f0))).setCell ⟨gb598, 1, none⟩ (.int .i64 ((rd_T38 l0_2 x21_1).f1)))) ?hg ?ho ?hn ?hr ?_; (case ho => rfl); (case hg => rfl); (case hn => rfl); (case hr => first | (go_simp; done) | (go_simp; rfl)); intro w49 hw; have n0_ : Aside0 (Kd.R Kd.bool 4 w49 w.heap.size (fun _ => True) (.slice (some ⟨go6, 0, none⟩) x5_1.length co6) x5_1) := ⟨(by rw [hw]; exact (Kd.R_up (Kd.R_mono (Kd.R_far (p := ⟨gb598, 1, none⟩) (Kd.R_far (p := ⟨gb598, 0, none⟩) (Kd.R_types HO_5.out BK598.out (by decide)) (fun _ hk => hk.2) (.int .i64 ((rd_T38 l0_2 x21_1).f0))) (fun _ hk => hk.2) (.int .i64 ((rd_T38 l0_2 x21_1).f1))) (fun _ hk => trivial))))⟩; have n1_ : Aside0 (w49.heap[gb592]? = some (.cells #[.slice A0_0 l0_0.length c0_0, .slice A0_1 l0_1.length c0_1, .slice (some ad597) l0_2.length c0_2] 26 (0, 0))) := ⟨(by rw [hw]; exact (kP BK592.out))⟩; have n2_ : Aside0 (w49.heap[gb598]? = some (.cells #[.int .i64 ((rd_T38 l0_2 x21_1).f0), .int .i64 ((rd_T38 l0_2 x21_1).f1)] 38 (0, 0))) := ⟨(by rw [hw]; exact (kP BK598.out))⟩; have n3_ : Aside0 (Below w.heap.size w w49) := ⟨(by rw [hw]; exact (bU HB.out))⟩; clear hw; clear HO_5; clear BK592; clear BK598; clear HB; have HO_5 := n0_; have BK592 := n1_; have BK598 := n2_; have HB := n3_; clear n0_ n1_ n2_ n3_; obtain ⟨hcz50_0, hcz50_1, hfz50_0, hfz50_1⟩ := cz2 BK598.out; have p45 : 0 ≤ (((rd_T38 l0_2 x21_1).f0) : Int) := oD; have q45 : (((rd_T38 l0_2 x21_1).f0) : Int) < ((x5_1.length : Int) : Int) := oD; obtain ⟨hx45_0, hf45_0⟩ := Kd.R_celln false HO_5.out (((rd_T38 l0_2 x21_1).f0) : Int) p45 q45; replace p45 := eq_true p45; replace q45 := eq_true q45; obtain ⟨hy51_, hz51_⟩ := Kd.R_celln false HO_5.out (((rd_T38 l0_2 x21_1).f0) : Int) (oD) (oD); have HP51 := Kd.R_putg HO_5.out (((rd_T38 l0_2 x21_1).f0) : Int) true) | ((with_reducible refine gate_store (t := 4) (p := 40) rfl ?_); refine store_event (t := 4) (p := 40) (v := ?vo_w52) (w1 := (w49.setCell ⟨go6, (((rd_T38 l0_2 x21_1).f0) : Int).toNat, none⟩ (.bool true))) ?hg ?ho ?hn ?hr ?_; (case ho => rfl); (case hg => rfl); (case hn => rfl); (case hr => first | (go_simp; done) | (go_simp; rfl)); intro w52 hw; have hg : w49.grownBy w52 (some go6) := (by rw [hw]; exact HP51.2); have hp_ : Kd.R Kd.bool 4 w52 w.heap.size (fun _ => True) (.slice (some ⟨go6, 0, none⟩) x5_1.length co6) y601 := (by rw [hw, Ny601.out]; exact HP51.1); clear HP51; have n0_ := aM (hp_); have n1_ := aM (blk_grown (kU BK592.out) hg (Kd.R_ne HO_5.out BK592.out (by decide))); have n2_ := aM (blk_grown (kU BK598.out) hg (Kd.R_ne HO_5.out BK598.out (by decide))); have n3_ := aM ((by rw [hw]; exact below_set (HB.out) GB6.out : Below w.heap.size w w52)); clear HO_5; clear BK592; clear BK598; clear HB; have HO_5 := n0_; have BK592 := n1_; have BK598 := n2_; have HB := n3_; clear n0_ n1_ n2_ n3_; clear hg hw hp_))
            (try simp only [← hl5_1])
            go_roundg k1
            case measure => have := HK1.out; omega
            case rel => exact ⟨(y601), (wrap64 (x21_1 + 1)), (by first | rfl | (simp; done) | (simp [*]; done)), H', ⟨by have := HK1.out; omega⟩, ⟨by (try simp only [hl5_1]); (with_reducible repeat (first | apply Kd.R_alloc | apply Kd.R_drewN | apply Kd.R_drew)); exact HO_5.out⟩, ⟨by (try simp only [hl5_1]); (with_reducible repeat (first | refine kN ?_ _ | refine kD ?_ | refine kA ?_ _)); exact BK592.out⟩, ⟨bU HB.out⟩⟩
           ·rw [if_neg c44] at H
            exact absurd H (by simp)
          ·rw [if_neg c43] at H
           exact absurd H (by simp)
         ·rw [if_neg c42] at H
          have c42b0 : (((rd_T38 l0_2 x21_1).f1) == a1) = false := beq_eq_false_iff_ne.mpr c42
          have c42b1 : (((rd_T38 l0_2 x21_1).f1) != a1) = true := bne_iff_ne.mpr c42
          have H' := Aside0.mk H
          clear H
          have p597 : 0 ≤ (x21_1 : Int) := oD
          have q597 : x21_1 < (l0_2.length : Int) := oD
          obtain ⟨ad597, e597, hx597_0, hx597_1⟩ := at_T38 HR0_2.out x21_1 p597 q597
          cases e597
          replace hx597_0 := (HB.out.cell (World.block_lt_of_cell? w _ hx597_0)).trans hx597_0
          replace hx597_1 := (HB.out.cell (World.block_lt_of_cell? w _ hx597_1)).trans hx597_1
          replace p597 := eq_true p597
          replace q597 := eq_true q597
          go_wp2_with (first | ((with_reducible refine gate_dst (N := 7) rfl ?_); refine box_event ?hg (N := 7) ?hd (cs := #[.int .i64 0, .int .i64 0]) (t := 38) ?hr ?_; (case hd => rfl); (case hg => rfl); (case hr => first | (go_simp; done) | (go_simp; rfl)); intro gb598 hg w53 hbox hb; have n0_ := aM (Kd.R_below (Kd.R_up HO_5.out) hb); have n1_ := aM (blk_below (kU BK592.out) hb); have n2_ := aM (below_step (bU HB.out) hb); have n3_ := aM (hbox); have n4_ := aM ((by rw [hg]; exact (below_size (bU HB.out)) : w.heap.size ≤ gb598)); have n5_ := aM ((by rw [hg]; exact (below_size (bU HB.out)) : w.heap.size ≤ gb598)); have n6_ := aM ((by rw [hg]; exact Nat.ne_of_lt (blk_lt (kU BK592.out)) : gb592 ≠ gb598)); have n7_ := aM ((by rw [hg]; exact Nat.ne_of_gt (blk_lt (kU BK592.out)) : gb598 ≠ gb592)); clear HO_5; clear BK592; clear HB; have HO_5 := n0_; have BK592 := n1_; have HB := n2_; have BK598 := n3_; have GW598 := n4_; have GE598 := n5_; have NB592_598 := n6_; have NB598_592 := n7_; clear n0_ n1_ n2_ n3_ n4_ n5_ n6_ n7_; clear hb hbox hg; have hnb54 := NB598_592.out; have hnc54 := NB592_598.out; obtain ⟨hcz55_0, hcz55_1, hfz55_0, hfz55_1⟩ := cz2 BK598.out))
          (try simp only [← hl5_1])
          go_roundg k1
          case measure => have := HK1.out; omega
          case rel => exact ⟨(x5_1), (wrap64 (x21_1 + 1)), (by first | rfl | (simp; done) | (simp [*]; done)), H', ⟨by have := HK1.out; omega⟩, ⟨by (try simp only [hl5_1]); (with_reducible repeat (first | apply Kd.R_alloc | apply Kd.R_drewN | apply Kd.R_drew)); exact Kd.R_mono (Kd.R_far (p := ⟨gb598, 1, none⟩) (Kd.R_far (p := ⟨gb598, 0, none⟩) (Kd.R_types HO_5.out BK598.out (by decide)) (fun _ hk => hk.2) (.int .i64 ((rd_T38 l0_2 x21_1).f0))) (fun _ hk => hk.2) (.int .i64 ((rd_T38 l0_2 x21_1).f1))) (fun _ hk => trivial)⟩, ⟨by (try simp only [hl5_1]); (with_reducible repeat (first | refine kN ?_ _ | refine kD ?_ | refine kA ?_ _)); refine blk_far ?_ NB592_598.out _; (with_reducible repeat (first | refine kN ?_ _ | refine kD ?_ | refine kA ?_ _)); refine blk_far ?_ NB592_598.out _; (with_reducible repeat (first | refine kN ?_ _ | refine kD ?_ | refine kA ?_ _)); exact BK592.out⟩, ⟨bU HB.out⟩⟩
       ·rw [if_neg c15] at H
        exact absurd H (by simp)
      ·rw [if_neg c14] at H
       exact absurd H (by simp)
     ·rw [if_neg c13] at H
      have c13b0 := decide_eq_false c13
      clear c13
      have H' := Aside0.mk H
      clear H
      obtain ⟨hcz56_0, hcz56_1, hcz56_2, hfz56_0, hfz56_1, hfz56_2⟩ := cz3 BK592.out
      go_wp2
      go_loopg [45] k1 (fun kq v45 w' => ∃ (x5_2 : List Bool) (x45_2 : Int), v45 = .int .i64 x45_2 ∧ Aside0 (party_connected.l1 kq a1 x5_2 (l0_0.length : Int) x45_2 l0_0 l0_1 l0_2 = some r) ∧ Aside0 (kq ≤ k1) ∧ Aside0 (Kd.R Kd.bool 4 w' w.heap.size (fun _ => True) (.slice (some ⟨go6, 0, none⟩) x5_1.length co6) x5_2) ∧ Aside0 (w'.heap[gb592]? = some (.cells #[(.slice A0_0 l0_0.length c0_0), (.slice A0_1 l0_1.length c0_1), (.slice A0_2 l0_2.length c0_2)] 26 (0, 0))) ∧ Aside0 (Below w.heap.size w w'))
      case atStart => exact ⟨(x5_1), (0), (by first | rfl | (simp; done) | (simp [*]; done)), H', ⟨Nat.le_refl _⟩, ⟨by (try simp only [hl5_1]); (with_reducible repeat (first | apply Kd.R_alloc | apply Kd.R_drewN | apply Kd.R_drew)); exact HO_5.out⟩, ⟨by (try simp only [hl5_1]); (with_reducible repeat (first | refine kN ?_ _ | refine kD ?_ | refine kA ?_ _)); exact BK592.out⟩, ⟨bU HB.out⟩⟩
      case round =>
       clear H'
       (try clear c1); (try clear p1); (try clear q1); (try clear hx1); (try clear c2); (try clear p2); (try clear q2); (try clear hx2); (try clear hf2); (try clear c3); (try clear c4); (try clear c4b0); (try clear p4); (try clear q4); (try clear hx4); (try clear hf4); (try clear c5); (try clear c5b0); (try clear p5); (try clear q5); (try clear hx5); (try clear p6); (try clear q6); (try clear hx6); (try clear hf6); (try clear c13); (try clear c13b0); (try clear c14); (try clear c14b0); (try clear c15); (try clear c15b0); (try clear c16); (try clear c16b0); (try clear c16b1); (try clear c17); (try clear c17b0); (try clear c18); (try clear c18b0); (try clear p19); (try clear q19); (try clear hx19); (try clear hf19); (try clear c20); (try clear c20b0); (try clear c20b1); (try clear c21); (try clear c21b0); (try clear c22); (try clear c22b0); (try clear p23); (try clear q23); (try clear hx23); (try clear hf23); (try clear c25); (try clear c31); (try clear c35); (try clear c37); (try clear c42); (try clear c42b0); (try clear c42b1); (try clear c43); (try clear c43b0); (try clear c44); (try clear c44b0); (try clear p45); (try clear q45); (try clear hx45); (try clear hf45); (try clear c47); (try clear c54); (try clear hcz12_0 hcz12_1 hcz12_2); (try clear hcz26_0 hcz26_1); (try clear hcz28_0 hcz28_1); (try clear hcz31_0 hcz31_1); (try clear hcz36_0 hcz36_1); (try clear hcz38_0 hcz38_1); (try clear hcz41_0 hcz41_1); (try clear hcz48_0 hcz48_1); (try clear hcz50_0 hcz50_1); (try clear hcz55_0 hcz55_1); (try clear hcz56_0 hcz56_1 hcz56_2); (try clear hcz8_0 hcz8_1 hcz8_2); (try clear hfz12_0 hfz12_1 hfz12_2); (try clear hfz26_0 hfz26_1); (try clear hfz28_0 hfz28_1); (try clear hfz31_0 hfz31_1); (try clear hfz36_0 hfz36_1); (try clear hfz38_0 hfz38_1); (try clear hfz41_0 hfz41_1); (try clear hfz48_0 hfz48_1); (try clear hfz50_0 hfz50_1); (try clear hfz55_0 hfz55_1); (try clear hfz56_0 hfz56_1 hfz56_2); (try clear hfz8_0 hfz8_1 hfz8_2); (try clear hx19_0); (try clear hx23_0); (try clear hx45_0); (try clear hx597_0); (try clear hx597_1); (try clear hx6_0); (try clear p19); (try clear p2); (try clear p23); (try clear p45); (try clear p597); (try clear p6); (try clear q19); (try clear q23); (try clear q45); (try clear q597); (try clear q6)
       obtain ⟨x5_2, x45_2, rfl, HA, HK2, HO_5, BK592, HB⟩ := hrel
       have hl5_2 := (Kd.R_reads' HO_5.out).1
       rw [hl5_2] at HO_5
       (try simp only [hl5_2])
       (try simp only [hl5_2] at BK592)
       cases gk with
       | zero => exact absurd HA.out (by simp [party_connected.l1])
       | succ k2 =>
        have H := HA.out
        clear HA
        simp only [party_connected.l1] at H
        by_cases c57 : x45_2 < (l0_0.length : Int)
        ·rw [if_pos c57] at H
         have c57b0 := decide_eq_true c57
         clear c57
         replace H := bE H
         obtain ⟨t602, A580, H⟩ := H
         replace H : (if 0 ≤ a1 then (if a1 < (t602.length : Int) then (if rdOf false t602 a1 = true then (if 0 ≤ x45_2 then (if x45_2 < (x5_2.length : Int) then (party_connected.l2 k2 a1 (x5_2.set (x45_2 : Int).toNat true) (l0_0.length : Int) x45_2 t602 (t602.length : Int) 0 l0_0 l0_1 l0_2) else (none)) else (none)) else (party_connected.l1 k2 a1 x5_2 (l0_0.length : Int) (wrap64 (x45_2 + 1)) l0_0 l0_1 l0_2)) else (none)) else (none)) = some r := H
         have A58 := Aside0.mk A580
         clear A580
         by_cases c59 : 0 ≤ a1
         ·rw [if_pos c59] at H
          have c59b0 := decide_eq_true c59
          clear c59
          by_cases c60 : a1 < (t602.length : Int)
          ·rw [if_pos c60] at H
           have c60b0 := decide_eq_true c60
           clear c60
           obtain ⟨bq61, hbq61⟩ : ∃ b_ : Bool, b_ = (rdOf false t602 a1) := ⟨_, rfl⟩
           replace H : (if bq61 = true then (if 0 ≤ x45_2 then (if x45_2 < (x5_2.length : Int) then (party_connected.l2 k2 a1 (x5_2.set (x45_2 : Int).toNat true) (l0_0.length : Int) x45_2 t602 (t602.length : Int) 0 l0_0 l0_1 l0_2) else (none)) else (none)) else (party_connected.l1 k2 a1 x5_2 (l0_0.length : Int) (wrap64 (x45_2 + 1)) l0_0 l0_1 l0_2)) = some r := by rw [← hbq61] at H; exact H
           have Nbq61 := Aside0.mk hbq61
           clear hbq61
           by_cases c62 : bq61 = true
           ·subst c62
            have H1 : (if 0 ≤ x45_2 then (if x45_2 < (x5_2.length : Int) then (party_connected.l2 k2 a1 (x5_2.set (x45_2 : Int).toNat true) (l0_0.length : Int) x45_2 t602 (t602.length : Int) 0 l0_0 l0_1 l0_2) else (none)) else (none)) = some r := by rw [if_pos rfl] at H; exact H
            clear H
            have H := H1
            clear H1
            by_cases c63 : 0 ≤ x45_2
            ·rw [if_pos c63] at H
             have c63b0 := decide_eq_true c63
             clear c63
             by_cases c64 : x45_2 < (x5_2.length : Int)
             ·rw [if_pos c64] at H
              have c64b0 := decide_eq_true c64
              clear c64
              obtain ⟨y606, hy606⟩ : ∃ y_ : List Bool, y_ = (x5_2.set (x45_2 : Int).toNat true) := ⟨_, rfl⟩
              replace H : (party_connected.l2 k2 a1 y606 (l0_0.length : Int) x45_2 t602 (t602.length : Int) 0 l0_0 l0_1 l0_2) = some r := by first | (rw [hy606]; with_reducible exact H) | (have H2_ := (Option.bind_some _ _).symm.trans H; rw [hy606]; with_reducible exact H2_) | (have H2_ := (Option.bind_some _ _).symm.trans H; with_reducible exact H2_) | with_reducible exact H | (rw [hy606]; exact H) | exact H
              have Ny606 := Aside0.mk hy606
              clear hy606
              have H' := Aside0.mk H
              clear H
              obtain ⟨hcz66_0, hcz66_1, hcz66_2, hfz66_0, hfz66_1, hfz66_2⟩ := cz3 BK592.out
              go_wp2_with (first | ((with_reducible refine gate_callee (f := 31) rfl ?_); refine goesLq (some 50) rfl rfl Tryd.func31 #[.agg #[.slice A0_0 l0_0.length c0_0, .slice A0_1 l0_1.length c0_1, .slice A0_2 l0_2.length c0_2], .int .i64 x45_2] rfl ?_; (with_reducible refine (party_controlled.calls k2 _ _ l0_0 _ _ l0_1 _ _ l0_2 x45_2 t602 _ ?side1 ?side2 ?side3 ?side4 ?side5 ?side6 A58.out).mono ?_); (case side1 => exact Kd.C_up (Kd.C_below HR0_0.out HB.out)); (case side2 => exact HC0_0.out); (case side3 => exact Kd.C_up (Kd.C_below HR0_1.out HB.out)); (case side4 => exact HC0_1.out); (case side5 => exact Kd.C_up (Kd.C_below HR0_2.out HB.out)); (case side6 => exact HC0_2.out); rintro e w67 ⟨v603, rfl, ho0, hb⟩; refine ⟨_, rfl, ?_⟩; have n0_ := aM (Kd.R_elder' (Kd.R_up HO_5.out) (Kd.R_base ho0) hb); have n1_ := aM (Kd.R_lower (Kd.R_new' ho0 (Kd.R_lt (Kd.R_up HO_5.out))) (below_size (bU HB.out))); have n2_ := aM (blk_below (kU BK592.out) hb); have n3_ := aM (below_step (bU HB.out) hb); clear HO_5; clear BK592; clear HB; have HO_5 := n0_; have HO604 := n1_; have BK592 := n2_; have HB := n3_; clear n0_ n1_ n2_ n3_; (try clear hb); (try clear hb2); (try clear hk); (try clear hi); (try clear ho0); obtain ⟨Ao68, co68, eo68⟩ := Kd.R_slice HO604.out; subst eo68; have p605 : 0 ≤ (a1 : Int) := oD; have q605 : a1 < (t602.length : Int) := oD; obtain ⟨ad605, e605, hx605_0⟩ := Kd.at_bool (Kd.R_reads' HO604.out).2.2 a1 p605 q605; (try rw [← Nbq61.out] at hx605_0); cases e605; replace p605 := eq_true p605; replace q605 := eq_true q605; have p65 : 0 ≤ (x45_2 : Int) := oD; have q65 : (x45_2 : Int) < ((x5_2.length : Int) : Int) := oD; obtain ⟨hx65_0, hf65_0⟩ := Kd.R_celln false HO_5.out (x45_2 : Int) p65 q65; replace p65 := eq_true p65; replace q65 := eq_true q65; have n_ := aM (Kd.R_mono (ok' := (fun k_ => some k_ ≠ (.slice (some ad605) t602.length co68 : Value).ownBlock)) HO_5.out (fun k_ hk => hk.2)); clear HO_5; have HO_5 := n_; clear n_; obtain ⟨hy69_, hz69_⟩ := Kd.R_celln false HO_5.out (x45_2 : Int) (oD) (oD); have HP69 := Kd.R_putg HO_5.out (x45_2 : Int) true) | ((with_reducible refine gate_store (t := 4) (p := 58) rfl ?_); refine store_event (t := 4) (p := 58) (v := ?vo_w70) (w1 := (w67.setCell ⟨go6, (x45_2 : Int).toNat, none⟩ (.bool true))) ?hg ?ho ?hn ?hr ?_; (case ho => rfl); (case hg => rfl); (case hn => rfl); (case hr => first | (go_simp; done) | (go_simp; rfl)); intro w70 hw; have hg : w67.grownBy w70 (some go6) := (by rw [hw]; exact HP69.2); have hp_ : Kd.R Kd.bool 4 w70 w.heap.size (fun k_ => some k_ ≠ (.slice (some ad605) t602.length co68 : Value).ownBlock) (.slice (some ⟨go6, 0, none⟩) x5_2.length co6) y606 := (by rw [hw, Ny606.out]; exact HP69.1); clear HP69; have n0_ := aM (hp_); have n1_ := aM (blk_grown (kU BK592.out) hg (Kd.R_ne HO_5.out BK592.out (by decide))); have n2_ := aM (Kd.R_after (v := (.slice (some ⟨go6, 0, none⟩) x5_2.length co6)) (v1 := (.slice (some ⟨go6, 0, none⟩) x5_2.length co6)) (ok := (fun _ => True)) (Kd.R_up HO604.out) hg (.inl rfl)); have n3_ := aM ((by rw [hw]; exact below_set (HB.out) GB6.out : Below w.heap.size w w70)); clear HO_5; clear BK592; clear HO604; clear HB; have HO_5 := n0_; have BK592 := n1_; have HO604 := n2_; have HB := n3_; clear n0_ n1_ n2_ n3_; clear hg hw hp_))
              go_loopg [61] k2 (fun kq v61 w' => ∃ (x5_3 : List Bool) (x61_3 : Int), v61 = .int .i64 x61_3 ∧ Aside0 (party_connected.l2 kq a1 x5_3 (l0_0.length : Int) x45_2 t602 (t602.length : Int) x61_3 l0_0 l0_1 l0_2 = some r) ∧ Aside0 (kq ≤ k2) ∧ Aside0 (Kd.R Kd.bool 4 w' w.heap.size (fun k_ => some k_ ≠ ((.slice (some ad605) t602.length co68) : Value).ownBlock) (.slice (some ⟨go6, 0, none⟩) x5_2.length co6) x5_3) ∧ Aside0 (Kd.R Kd.bool 4 w' w.heap.size (fun k_ => some k_ ≠ ((.slice (some ⟨go6, 0, none⟩) x5_2.length co6) : Value).ownBlock) (.slice (some ad605) t602.length co68) t602) ∧ Aside0 (w'.heap[gb592]? = some (.cells #[(.slice A0_0 l0_0.length c0_0), (.slice A0_1 l0_1.length c0_1), (.slice A0_2 l0_2.length c0_2)] 26 (0, 0))) ∧ Aside0 (Below w.heap.size w w'))
              case atStart => exact ⟨(y606), (0), (by first | rfl | (simp; done) | (simp [*]; done)), H', ⟨Nat.le_refl _⟩, ⟨by (try simp only [hl5_1]); (try simp only [hl5_2]); (with_reducible repeat (first | apply Kd.R_alloc | apply Kd.R_drewN | apply Kd.R_drew)); exact HO_5.out⟩, ⟨by (try simp only [hl5_1]); (try simp only [hl5_2]); (with_reducible repeat (first | apply Kd.R_alloc | apply Kd.R_drewN | apply Kd.R_drew)); exact Kd.R_mono HO604.out (fun _ hk => hk.2)⟩, ⟨by (try simp only [hl5_1]); (try simp only [hl5_2]); (with_reducible repeat (first | refine kN ?_ _ | refine kD ?_ | refine kA ?_ _)); exact BK592.out⟩, ⟨bU HB.out⟩⟩
              case round =>
               clear H'
               (try clear c1); (try clear p1); (try clear q1); (try clear hx1); (try clear c2); (try clear p2); (try clear q2); (try clear hx2); (try clear hf2); (try clear c3); (try clear c4); (try clear c4b0); (try clear p4); (try clear q4); (try clear hx4); (try clear hf4); (try clear c5); (try clear c5b0); (try clear p5); (try clear q5); (try clear hx5); (try clear c6); (try clear p6); (try clear q6); (try clear hx6); (try clear hf6); (try clear c13); (try clear c13b0); (try clear c14); (try clear c14b0); (try clear c15); (try clear c15b0); (try clear c16); (try clear c16b0); (try clear c16b1); (try clear c17); (try clear c17b0); (try clear c18); (try clear c18b0); (try clear p19); (try clear q19); (try clear hx19); (try clear hf19); (try clear c20); (try clear c20b0); (try clear c20b1); (try clear c21); (try clear c21b0); (try clear c22); (try clear c22b0); (try clear p23); (try clear q23); (try clear hx23); (try clear hf23); (try clear c25); (try clear c31); (try clear c35); (try clear c37); (try clear c42); (try clear c42b0); (try clear c42b1); (try clear c43); (try clear c43b0); (try clear c44); (try clear c44b0); (try clear p45); (try clear q45); (try clear hx45); (try clear hf45); (try clear c47); (try clear c54); (try clear c57); (try clear c57b0); (try clear c59); (try clear c59b0); (try clear p59); (try clear q59); (try clear hx59); (try clear c60); (try clear c60b0); (try clear p60); (try clear q60); (try clear hx60); (try clear q61); (try clear c62); (try clear c63); (try clear c63b0); (try clear c64); (try clear c64b0); (try clear p64); (try clear p65); (try clear q65); (try clear hx65); (try clear hf65); (try clear hcz12_0 hcz12_1 hcz12_2); (try clear hcz26_0 hcz26_1); (try clear hcz28_0 hcz28_1); (try clear hcz31_0 hcz31_1); (try clear hcz36_0 hcz36_1); (try clear hcz38_0 hcz38_1); (try clear hcz41_0 hcz41_1); (try clear hcz48_0 hcz48_1); (try clear hcz50_0 hcz50_1); (try clear hcz55_0 hcz55_1); (try clear hcz56_0 hcz56_1 hcz56_2); (try clear hcz66_0 hcz66_1 hcz66_2); (try clear hcz8_0 hcz8_1 hcz8_2); (try clear hfz12_0 hfz12_1 hfz12_2); (try clear hfz26_0 hfz26_1); (try clear hfz28_0 hfz28_1); (try clear hfz31_0 hfz31_1); (try clear hfz36_0 hfz36_1); (try clear hfz38_0 hfz38_1); (try clear hfz41_0 hfz41_1); (try clear hfz48_0 hfz48_1); (try clear hfz50_0 hfz50_1); (try clear hfz55_0 hfz55_1); (try clear hfz56_0 hfz56_1 hfz56_2); (try clear hfz66_0 hfz66_1 hfz66_2); (try clear hfz8_0 hfz8_1 hfz8_2); (try clear hx19_0); (try clear hx23_0); (try clear hx45_0); (try clear hx597_0); (try clear hx597_1); (try clear hx605_0); (try clear hx65_0); (try clear hx6_0); (try clear p1); (try clear p19); (try clear p2); (try clear p23); (try clear p4); (try clear p45); (try clear p5); (try clear p597); (try clear p6); (try clear p605); (try clear p65); (try clear q1); (try clear q19); (try clear q2); (try clear q23); (try clear q4); (try clear q45); (try clear q5); (try clear q597); (try clear q6); (try clear q605); (try clear q65)
               obtain ⟨x5_3, x61_3, rfl, HA, HK3, HO_5, HO_59, BK592, HB⟩ := hrel
               have hl5_3 := (Kd.R_reads' HO_5.out).1
               rw [hl5_3] at HO_5
               (try simp only [hl5_3])
               (try simp only [hl5_3] at BK592)
               (try simp only [hl5_3] at HO_59)
               cases gk with
               | zero => exact absurd HA.out (by simp [party_connected.l2])
               | succ k3 =>
                have H := HA.out
                clear HA
                simp only [party_connected.l2] at H
                by_cases c71 : x61_3 < (t602.length : Int)
                ·rw [if_pos c71] at H
                 have c71b0 := decide_eq_true c71
                 clear c71
                 by_cases c72 : 0 ≤ x61_3
                 ·rw [if_pos c72] at H
                  have c72b0 := decide_eq_true c72
                  clear c72
                  by_cases c73 : x61_3 < (t602.length : Int)
                  ·rw [if_pos c73] at H
                   have c73b0 := decide_eq_true c73
                   clear c73
                   by_cases c74 : x61_3 < (x5_3.length : Int)
                   ·rw [if_pos c74] at H
                    have c74b0 := decide_eq_true c74
                    clear c74
                    obtain ⟨bq75, hbq75⟩ : ∃ b_ : Bool, b_ = (rdOf false x5_3 x61_3) := ⟨_, rfl⟩
                    replace H : (if bq75 = true then (party_connected.l2 k3 a1 (x5_3.set (x61_3 : Int).toNat true) (l0_0.length : Int) x45_2 t602 (t602.length : Int) (wrap64 (x61_3 + 1)) l0_0 l0_1 l0_2) else (party_connected.l2 k3 a1 (x5_3.set (x61_3 : Int).toNat (rdOf false t602 x61_3)) (l0_0.length : Int) x45_2 t602 (t602.length : Int) (wrap64 (x61_3 + 1)) l0_0 l0_1 l0_2)) = some r := by rw [← hbq75] at H; exact H
                    have Nbq75 := Aside0.mk hbq75
                    clear hbq75
                    by_cases c76 : bq75 = true
                    ·subst c76
                     have H1 : (party_connected.l2 k3 a1 (x5_3.set (x61_3 : Int).toNat true) (l0_0.length : Int) x45_2 t602 (t602.length : Int) (wrap64 (x61_3 + 1)) l0_0 l0_1 l0_2) = some r := by rw [if_pos rfl] at H; exact H
                     clear H
                     have H := H1
                     clear H1
                     obtain ⟨y609, hy609⟩ : ∃ y_ : List Bool, y_ = (x5_3.set (x61_3 : Int).toNat true) := ⟨_, rfl⟩
                     replace H : (party_connected.l2 k3 a1 y609 (l0_0.length : Int) x45_2 t602 (t602.length : Int) (wrap64 (x61_3 + 1)) l0_0 l0_1 l0_2) = some r := by first | (rw [hy609]; with_reducible exact H) | (have H2_ := (Option.bind_some _ _).symm.trans H; rw [hy609]; with_reducible exact H2_) | (have H2_ := (Option.bind_some _ _).symm.trans H; with_reducible exact H2_) | with_reducible exact H | (rw [hy609]; exact H) | exact H
                     have Ny609 := Aside0.mk hy609
                     clear hy609
                     have H' := Aside0.mk H
                     clear H
                     have p607 : 0 ≤ (x61_3 : Int) := oD
                     have q607 : x61_3 < (t602.length : Int) := oD
                     obtain ⟨ad607, e607, hx607_0⟩ := Kd.at_bool (Kd.R_reads' HO_59.out).2.2 x61_3 p607 q607
                     (try rw [← Nbq61.out] at hx607_0)
                     (try rw [← Nbq75.out] at hx607_0)
                     obtain rfl : ad605 = ad607 := (by injection e607)
                     replace p607 := eq_true p607
                     replace q607 := eq_true q607
                     have p608 : 0 ≤ (x61_3 : Int) := oD
                     have q608 : x61_3 < (x5_3.length : Int) := oD
                     obtain ⟨ad608, e608, hx608_0⟩ := Kd.at_bool (Kd.R_reads' HO_5.out).2.2 x61_3 p608 q608
                     (try rw [← Nbq61.out] at hx608_0)
                     (try rw [← Nbq75.out] at hx608_0)
                     obtain rfl : (⟨go6, 0, none⟩ : Addr) = ad608 := (by injection e608)
                     (first | simp only [add_plain] at hx608_0 | simp only [add_at] at hx608_0 | simp only [Addr.add, Nat.zero_add] at hx608_0 | skip)
                     replace p608 := eq_true p608
                     replace q608 := eq_true q608
                     have p77 : 0 ≤ (x61_3 : Int) := oD
                     have q77 : (x61_3 : Int) < ((x5_3.length : Int) : Int) := oD
                     obtain ⟨hx77_0, hf77_0⟩ := Kd.R_celln false HO_5.out (x61_3 : Int) p77 q77
                     replace p77 := eq_true p77
                     replace q77 := eq_true q77
                     have HP78 := Kd.R_putg HO_5.out (x61_3 : Int) true
                     go_wp2_with (first | ((with_reducible refine gate_store (t := 4) (p := 75) rfl ?_); refine store_event (t := 4) (p := 75) (v := ?vo_w79) (w1 := (wr.setCell ⟨go6, (x61_3 : Int).toNat, none⟩ (.bool true))) ?hg ?ho ?hn ?hr ?_; (case ho => rfl); (case hg => rfl); (case hn => rfl); (case hr => first | (go_simp; done) | (go_simp; rfl)); intro w79 hw; have hg : wr.grownBy w79 (some go6) := (by rw [hw]; exact HP78.2); have hp_ : Kd.R Kd.bool 4 w79 w.heap.size (fun k_ => some k_ ≠ (.slice (some ad605) t602.length co68 : Value).ownBlock) (.slice (some ⟨go6, 0, none⟩) x5_3.length co6) y609 := (by rw [hw, Ny609.out]; exact HP78.1); clear HP78; have n0_ := aM (hp_); have n1_ := aM (Kd.R_after (v := (.slice (some ⟨go6, 0, none⟩) x5_3.length co6)) (v1 := (.slice (some ⟨go6, 0, none⟩) x5_3.length co6)) (ok := (fun _ => True)) (Kd.R_up (Kd.R_mono HO_59.out (fun _ hk => ⟨trivial, hk⟩))) hg (.inl rfl)); have n2_ := aM (blk_grown (kU BK592.out) hg (Kd.R_ne HO_5.out BK592.out (by decide))); have n3_ := aM ((by rw [hw]; exact below_set (HB.out) GB6.out : Below w.heap.size w w79)); clear HO_5; clear HO_59; clear BK592; clear HB; have HO_5 := n0_; have HO_59 := n1_; have BK592 := n2_; have HB := n3_; clear n0_ n1_ n2_ n3_; clear hg hw hp_))
                     (try simp only [← hl5_3])
                     go_roundg k3
                     case measure => have := HK1.out; have := HK2.out; have := HK3.out; omega
                     case rel => exact ⟨(y609), (wrap64 (x61_3 + 1)), (by first | rfl | (simp; done) | (simp [*]; done)), H', ⟨by have := HK1.out; have := HK2.out; have := HK3.out; omega⟩, ⟨by (try simp only [hl5_1]); (try simp only [hl5_2]); (try simp only [hl5_3]); (with_reducible repeat (first | apply Kd.R_alloc | apply Kd.R_drewN | apply Kd.R_drew)); exact HO_5.out⟩, ⟨by (try simp only [hl5_1]); (try simp only [hl5_2]); (try simp only [hl5_3]); (with_reducible repeat (first | apply Kd.R_alloc | apply Kd.R_drewN | apply Kd.R_drew)); exact Kd.R_mono HO_59.out (fun _ hk => hk.2)⟩, ⟨by (try simp only [hl5_1]); (try simp only [hl5_2]); (try simp only [hl5_3]); (with_reducible repeat (first | refine kN ?_ _ | refine kD ?_ | refine kA ?_ _)); exact BK592.out⟩, ⟨bU HB.out⟩⟩
                    ·replace c76 := Bool.eq_false_iff.mpr c76
                     subst c76
                     have H1 : (party_connected.l2 k3 a1 (x5_3.set (x61_3 : Int).toNat (rdOf false t602 x61_3)) (l0_0.length : Int) x45_2 t602 (t602.length : Int) (wrap64 (x61_3 + 1)) l0_0 l0_1 l0_2) = some r := by rw [if_neg (show ¬ (false = true) by decide)] at H; exact H
                     clear H
                     have H := H1
                     clear H1
                     obtain ⟨y610, hy610⟩ : ∃ y_ : List Bool, y_ = (x5_3.set (x61_3 : Int).toNat (rdOf false t602 x61_3)) := ⟨_, rfl⟩
                     replace H : (party_connected.l2 k3 a1 y610 (l0_0.length : Int) x45_2 t602 (t602.length : Int) (wrap64 (x61_3 + 1)) l0_0 l0_1 l0_2) = some r := by first | (rw [hy610]; with_reducible exact H) | (have H2_ := (Option.bind_some _ _).symm.trans H; rw [hy610]; with_reducible exact H2_) | (have H2_ := (Option.bind_some _ _).symm.trans H; with_reducible exact H2_) | with_reducible exact H | (rw [hy610]; exact H) | exact H
                     have Ny610 := Aside0.mk hy610
                     clear hy610
                     have H' := Aside0.mk H
                     clear H
                     have p607 : 0 ≤ (x61_3 : Int) := oD
                     have q607 : x61_3 < (t602.length : Int) := oD
                     obtain ⟨ad607, e607, hx607_0⟩ := Kd.at_bool (Kd.R_reads' HO_59.out).2.2 x61_3 p607 q607
                     (try rw [← Nbq61.out] at hx607_0)
                     (try rw [← Nbq75.out] at hx607_0)
                     obtain rfl : ad605 = ad607 := (by injection e607)
                     replace p607 := eq_true p607
                     replace q607 := eq_true q607
                     have p608 : 0 ≤ (x61_3 : Int) := oD
                     have q608 : x61_3 < (x5_3.length : Int) := oD
                     obtain ⟨ad608, e608, hx608_0⟩ := Kd.at_bool (Kd.R_reads' HO_5.out).2.2 x61_3 p608 q608
                     (try rw [← Nbq61.out] at hx608_0)
                     (try rw [← Nbq75.out] at hx608_0)
                     obtain rfl : (⟨go6, 0, none⟩ : Addr) = ad608 := (by injection e608)
                     (first | simp only [add_plain] at hx608_0 | simp only [add_at] at hx608_0 | simp only [Addr.add, Nat.zero_add] at hx608_0 | skip)
                     replace p608 := eq_true p608
                     replace q608 := eq_true q608
                     have p80 : 0 ≤ (x61_3 : Int) := oD
                     have q80 : (x61_3 : Int) < ((x5_3.length : Int) : Int) := oD
                     obtain ⟨hx80_0, hf80_0⟩ := Kd.R_celln false HO_5.out (x61_3 : Int) p80 q80
                     replace p80 := eq_true p80
                     replace q80 := eq_true q80
                     have HP81 := Kd.R_putg HO_5.out (x61_3 : Int) (rdOf false t602 x61_3)
                     go_wp2_with (first | ((with_reducible refine gate_store (t := 4) (p := 75) rfl ?_); refine store_event (t := 4) (p := 75) (v := ?vo_w82) (w1 := (wr.setCell ⟨go6, (x61_3 : Int).toNat, none⟩ (.bool (rdOf false t602 x61_3)))) ?hg ?ho ?hn ?hr ?_; (case ho => rfl); (case hg => rfl); (case hn => rfl); (case hr => first | (go_simp; done) | (go_simp; rfl)); intro w82 hw; have hg : wr.grownBy w82 (some go6) := (by rw [hw]; exact HP81.2); have hp_ : Kd.R Kd.bool 4 w82 w.heap.size (fun k_ => some k_ ≠ (.slice (some ad605) t602.length co68 : Value).ownBlock) (.slice (some ⟨go6, 0, none⟩) x5_3.length co6) y610 := (by rw [hw, Ny610.out]; exact HP81.1); clear HP81; have n0_ := aM (hp_); have n1_ := aM (Kd.R_after (v := (.slice (some ⟨go6, 0, none⟩) x5_3.length co6)) (v1 := (.slice (some ⟨go6, 0, none⟩) x5_3.length co6)) (ok := (fun _ => True)) (Kd.R_up (Kd.R_mono HO_59.out (fun _ hk => ⟨trivial, hk⟩))) hg (.inl rfl)); have n2_ := aM (blk_grown (kU BK592.out) hg (Kd.R_ne HO_5.out BK592.out (by decide))); have n3_ := aM ((by rw [hw]; exact below_set (HB.out) GB6.out : Below w.heap.size w w82)); clear HO_5; clear HO_59; clear BK592; clear HB; have HO_5 := n0_; have HO_59 := n1_; have BK592 := n2_; have HB := n3_; clear n0_ n1_ n2_ n3_; clear hg hw hp_))
                     (try simp only [← hl5_3])
                     go_roundg k3
                     case measure => have := HK1.out; have := HK2.out; have := HK3.out; omega
                     case rel => exact ⟨(y610), (wrap64 (x61_3 + 1)), (by first | rfl | (simp; done) | (simp [*]; done)), H', ⟨by have := HK1.out; have := HK2.out; have := HK3.out; omega⟩, ⟨by (try simp only [hl5_1]); (try simp only [hl5_2]); (try simp only [hl5_3]); (with_reducible repeat (first | apply Kd.R_alloc | apply Kd.R_drewN | apply Kd.R_drew)); exact HO_5.out⟩, ⟨by (try simp only [hl5_1]); (try simp only [hl5_2]); (try simp only [hl5_3]); (with_reducible repeat (first | apply Kd.R_alloc | apply Kd.R_drewN | apply Kd.R_drew)); exact Kd.R_mono HO_59.out (fun _ hk => hk.2)⟩, ⟨by (try simp only [hl5_1]); (try simp only [hl5_2]); (try simp only [hl5_3]); (with_reducible repeat (first | refine kN ?_ _ | refine kD ?_ | refine kA ?_ _)); exact BK592.out⟩, ⟨bU HB.out⟩⟩
                   ·rw [if_neg c74] at H
                    exact absurd H (by simp)
                  ·rw [if_neg c73] at H
                   exact absurd H (by simp)
                 ·rw [if_neg c72] at H
                  exact absurd H (by simp)
                ·rw [if_neg c71] at H
                 have c71b0 := decide_eq_false c71
                 clear c71
                 have H' := Aside0.mk H
                 clear H
                 go_wp2
                 (try simp only [← hl5_2, ← hl5_3])
                 go_roundg k3
                 case measure => have := HK1.out; have := HK2.out; have := HK3.out; omega
                 case rel => exact ⟨(x5_3), (wrap64 (x45_2 + 1)), (by first | rfl | (simp; done) | (simp [*]; done)), H', ⟨by have := HK1.out; have := HK2.out; have := HK3.out; omega⟩, ⟨by (try simp only [hl5_1]); (try simp only [hl5_2]); (try simp only [hl5_3]); (with_reducible repeat (first | apply Kd.R_alloc | apply Kd.R_drewN | apply Kd.R_drew)); exact Kd.R_mono HO_5.out (fun _ hk => trivial)⟩, ⟨by (try simp only [hl5_1]); (try simp only [hl5_2]); (try simp only [hl5_3]); (with_reducible repeat (first | refine kN ?_ _ | refine kD ?_ | refine kA ?_ _)); exact BK592.out⟩, ⟨bU HB.out⟩⟩
             ·rw [if_neg c64] at H
              exact absurd H (by simp)
            ·rw [if_neg c63] at H
             exact absurd H (by simp)
           ·replace c62 := Bool.eq_false_iff.mpr c62
            subst c62
            have H1 : (party_connected.l1 k2 a1 x5_2 (l0_0.length : Int) (wrap64 (x45_2 + 1)) l0_0 l0_1 l0_2) = some r := by rw [if_neg (show ¬ (false = true) by decide)] at H; exact H
            clear H
            have H := H1
            clear H1
            have H' := Aside0.mk H
            clear H
            obtain ⟨hcz83_0, hcz83_1, hcz83_2, hfz83_0, hfz83_1, hfz83_2⟩ := cz3 BK592.out
            go_wp2_with (first | ((with_reducible refine gate_callee (f := 31) rfl ?_); refine goesLq (some 50) rfl rfl Tryd.func31 #[.agg #[.slice A0_0 l0_0.length c0_0, .slice A0_1 l0_1.length c0_1, .slice A0_2 l0_2.length c0_2], .int .i64 x45_2] rfl ?_; (with_reducible refine (party_controlled.calls k2 _ _ l0_0 _ _ l0_1 _ _ l0_2 x45_2 t602 _ ?side1 ?side2 ?side3 ?side4 ?side5 ?side6 A58.out).mono ?_); (case side1 => exact Kd.C_up (Kd.C_below HR0_0.out HB.out)); (case side2 => exact HC0_0.out); (case side3 => exact Kd.C_up (Kd.C_below HR0_1.out HB.out)); (case side4 => exact HC0_1.out); (case side5 => exact Kd.C_up (Kd.C_below HR0_2.out HB.out)); (case side6 => exact HC0_2.out); rintro e w84 ⟨v603, rfl, ho0, hb⟩; refine ⟨_, rfl, ?_⟩; have n0_ := aM (Kd.R_elder' (Kd.R_up HO_5.out) (Kd.R_base ho0) hb); have n1_ := aM (Kd.R_lower (Kd.R_new' ho0 (Kd.R_lt (Kd.R_up HO_5.out))) (below_size (bU HB.out))); have n2_ := aM (blk_below (kU BK592.out) hb); have n3_ := aM (below_step (bU HB.out) hb); clear HO_5; clear BK592; clear HB; have HO_5 := n0_; have HO604 := n1_; have BK592 := n2_; have HB := n3_; clear n0_ n1_ n2_ n3_; (try clear hb); (try clear hb2); (try clear hk); (try clear hi); (try clear ho0); obtain ⟨Ao85, co85, eo85⟩ := Kd.R_slice HO604.out; subst eo85; have p605 : 0 ≤ (a1 : Int) := oD; have q605 : a1 < (t602.length : Int) := oD; obtain ⟨ad605, e605, hx605_0⟩ := Kd.at_bool (Kd.R_reads' HO604.out).2.2 a1 p605 q605; (try rw [← Nbq61.out] at hx605_0); cases e605; replace p605 := eq_true p605; replace q605 := eq_true q605))
            (try simp only [← hl5_2])
            go_roundg k2
            case measure => have := HK1.out; have := HK2.out; omega
            case rel => exact ⟨(x5_2), (wrap64 (x45_2 + 1)), (by first | rfl | (simp; done) | (simp [*]; done)), H', ⟨by have := HK1.out; have := HK2.out; omega⟩, ⟨by (try simp only [hl5_1]); (try simp only [hl5_2]); (with_reducible repeat (first | apply Kd.R_alloc | apply Kd.R_drewN | apply Kd.R_drew)); exact Kd.R_mono HO_5.out (fun _ hk => trivial)⟩, ⟨by (try simp only [hl5_1]); (try simp only [hl5_2]); (with_reducible repeat (first | refine kN ?_ _ | refine kD ?_ | refine kA ?_ _)); exact BK592.out⟩, ⟨bU HB.out⟩⟩
          ·rw [if_neg c60] at H
           exact absurd H (by simp)
         ·rw [if_neg c59] at H
          exact absurd H (by simp)
        ·rw [if_neg c57] at H
         have c57b0 := decide_eq_false c57
         clear c57
         obtain rfl := Option.some.inj H
         go_wp2
         go_ret
         exact ⟨_, by first | rfl | (simp [errW_none, errW_some] <;> rfl) | (simp [*, errW_none, errW_some] <;> rfl), Kd.R_up HO_5.out, bU HB.out⟩
  ·rw [if_neg c5] at H
   exact absurd H (by simp)
 ·rw [if_neg c4] at H
  exact absurd H (by simp)

end Go.Proofs.YtjeamaahhpbbkaaDoor.PAll
