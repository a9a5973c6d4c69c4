-- PRINTED by a session's own changed print
import Derived.Test.YtjeamaahhpbbkaaDoorPAllx0
import Derived.Test.YtjeamaahhpbbkaaDoorPAllx3
import Derived.Test.YtjeamaahhpbbkaaDoorPAllx8
import Derived.Test.YtjeamaahhpbbkaaDoorPAllx11
import Derived.Test.YtjeamaahhpbbkaaDoorPAllx15
import Derived.Test.YtjeamaahhpbbkaaDoorPAllx16
namespace Go.Proofs.YtjeamaahhpbbkaaDoor.PAll
open Go.RowKit Go.Proofs.YtjeamaahhpbbkaaDoorW.PrintWords Go.Proofs.YtjeamaahhpbbkaaDoorW.PrintLast
set_option linter.unusedVariables false
set_option linter.unusedSimpArgs false

/-! ### insolvencylaw8_votes: function 17 -/
mutual
def insolvencylaw8_votes.l0 : Nat → List Int → Int → Int → List (S36) → Int → Int → Bool → ByteArray → ByteArray → Option (Bool × ByteArray × ByteArray)
 | 0, _, _, _, _, _, _, _, _, _ => none
 | k + 1, x1, x2, x3, x17, x18, x19, x587000, x587001, x587002 => if x19 < x18 then (if 0 ≤ x19 then (if x19 < (x17.length : Int) then (insolvencylaw8_votes.l1 k x1 x2 x3 (((rd_T36 x17 x19).f0) == x2) x17 x18 x19 x1 (x1.length : Int) 0 x587000 x587001 x587002 ((rd_T36 x17 x19).f0) ((rd_T36 x17 x19).f1) ((rd_T36 x17 x19).f2.f0) ((rd_T36 x17 x19).f2.f1) ((rd_T36 x17 x19).f2.f2)) else (none)) else (none)) else (some (x587000, x587001, x587002))
def insolvencylaw8_votes.l1 : Nat → List Int → Int → Int → Bool → List (S36) → Int → Int → List Int → Int → Int → Bool → ByteArray → ByteArray → Int → Int → Bool → ByteArray → ByteArray → Option (Bool × ByteArray × ByteArray)
 | 0, _, _, _, _, _, _, _, _, _, _, _, _, _, _, _, _, _, _ => none
 | k + 1, x1, x2, x3, x12, x17, x18, x19, x27, x28, x29, x587000, x587001, x587002, x589000, x589001, x589002, x589003, x589004 => if x29 < x28 then (if 0 ≤ x29 then (if x29 < (x27.length : Int) then (if x12 = true then (insolvencylaw8_votes.l1 k x1 x2 x3 true x17 x18 x19 x27 x28 (wrap64 (x29 + 1)) x587000 x587001 x587002 x589000 x589001 x589002 x589003 x589004) else (insolvencylaw8_votes.l1 k x1 x2 x3 ((rd x27 x29) == x589000) x17 x18 x19 x27 x28 (wrap64 (x29 + 1)) x587000 x587001 x587002 x589000 x589001 x589002 x589003 x589004)) else (none)) else (none)) else (if x12 = true then (if x589001 = x3 then ((rational_Add.f k x587000 x587001 x587002 x589002 x589003 x589004).bind fun bt590 => (insolvencylaw8_votes.l0 k x1 x2 x3 x17 x18 (wrap64 (x19 + 1)) bt590.1 bt590.2.1 bt590.2.2)) else (insolvencylaw8_votes.l0 k x1 x2 x3 x17 x18 (wrap64 (x19 + 1)) x587000 x587001 x587002)) else (insolvencylaw8_votes.l0 k x1 x2 x3 x17 x18 (wrap64 (x19 + 1)) x587000 x587001 x587002))
end
def insolvencylaw8_votes.f (k : Nat) (l0_0 : List Int) (l0_1 : List (S36)) (l0_2 : List (S38)) (l1 : List Int) (a2 : Int) (a3 : Int) : Option (Bool × ByteArray × ByteArray) := insolvencylaw8_votes.l0 k l1 a2 a3 l0_1 (l0_1.length : Int) 0 false (⟨#[]⟩ : ByteArray) (⟨#[]⟩ : ByteArray)
theorem insolvencylaw8_votes.mono_l : ∀ k, (∀ y0 y1 y2 y3 y4 y5 y6 y7 y8, LeO (insolvencylaw8_votes.l0 k y0 y1 y2 y3 y4 y5 y6 y7 y8) (insolvencylaw8_votes.l0 (k + 1) y0 y1 y2 y3 y4 y5 y6 y7 y8)) ∧ (∀ y0 y1 y2 y3 y4 y5 y6 y7 y8 y9 y10 y11 y12 y13 y14 y15 y16 y17, LeO (insolvencylaw8_votes.l1 k y0 y1 y2 y3 y4 y5 y6 y7 y8 y9 y10 y11 y12 y13 y14 y15 y16 y17) (insolvencylaw8_votes.l1 (k + 1) y0 y1 y2 y3 y4 y5 y6 y7 y8 y9 y10 y11 y12 y13 y14 y15 y16 y17))
 | 0 => ⟨fun _ _ _ _ _ _ _ _ _ r h => by simp [insolvencylaw8_votes.l0] at h, fun _ _ _ _ _ _ _ _ _ _ _ _ _ _ _ _ _ _ r h => by simp [insolvencylaw8_votes.l1] at h⟩
 | k + 1 => by
  obtain ⟨ih0, ih1⟩ := insolvencylaw8_votes.mono_l k
  refine ⟨?_, ?_⟩
  ·intro y0 y1 y2 y3 y4 y5 y6 y7 y8
   unfold insolvencylaw8_votes.l0
   repeat' first
   | (with_reducible exact ih0 _ _ _ _ _ _ _ _ _)
   | (with_reducible exact ih1 _ _ _ _ _ _ _ _ _ _ _ _ _ _ _ _ _ _)
   | (with_reducible exact rational_Add.mono _ _ _ _ _ _ _)
   | (with_reducible exact LeO.refl _)
   | (with_reducible exact LeO.none _)
   | (with_reducible refine LeO.ite ?_ ?_)
   | (with_reducible refine LeO.bind ?_ (fun _ => ?_))
   | exact LeO.none _
   | refine LeO.ite ?_ ?_
   | refine LeO.bind ?_ (fun _ => ?_)
  ·intro y0 y1 y2 y3 y4 y5 y6 y7 y8 y9 y10 y11 y12 y13 y14 y15 y16 y17
   unfold insolvencylaw8_votes.l1
   repeat' first
   | (with_reducible exact ih0 _ _ _ _ _ _ _ _ _)
   | (with_reducible exact ih1 _ _ _ _ _ _ _ _ _ _ _ _ _ _ _ _ _ _)
   | (with_reducible exact rational_Add.mono _ _ _ _ _ _ _)
   | (with_reducible exact LeO.refl _)
   | (with_reducible exact LeO.none _)
   | (with_reducible refine LeO.ite ?_ ?_)
   | (with_reducible refine LeO.bind ?_ (fun _ => ?_))
   | exact LeO.none _
   | refine LeO.ite ?_ ?_
   | refine LeO.bind ?_ (fun _ => ?_)
theorem insolvencylaw8_votes.mono : ∀ a0 a1 a2 a3 a4 a5 k, LeO (insolvencylaw8_votes.f k a0 a1 a2 a3 a4 a5) (insolvencylaw8_votes.f (k + 1) a0 a1 a2 a3 a4 a5) := by
 intro a0 a1 a2 a3 a4 a5 k
 obtain ⟨ih0, ih1⟩ := insolvencylaw8_votes.mono_l k
 unfold insolvencylaw8_votes.f
 repeat' first
   | (with_reducible exact ih0 _ _ _ _ _ _ _ _ _)
   | (with_reducible exact ih1 _ _ _ _ _ _ _ _ _ _ _ _ _ _ _ _ _ _)
   | (with_reducible exact rational_Add.mono _ _ _ _ _ _ _)
   | (with_reducible exact LeO.refl _)
   | (with_reducible exact LeO.none _)
   | (with_reducible refine LeO.ite ?_ ?_)
   | (with_reducible refine LeO.bind ?_ (fun _ => ?_))
   | exact LeO.none _
   | refine LeO.ite ?_ ?_
   | refine LeO.bind ?_ (fun _ => ?_)
set_option maxHeartbeats 8000000 in
set_option maxRecDepth 100000 in
theorem insolvencylaw8_votes.calls (k : Nat) (A0_0 : Option Addr) (c0_0 : Nat) (l0_0 : List Int) (A0_1 : Option Addr) (c0_1 : Nat) (l0_1 : List (S36)) (A0_2 : Option Addr) (c0_2 : Nat) (l0_2 : List (S38)) (A1 : Option Addr) (c1 : Nat) (l1 : List Int) (a2 : Int) (a3 : Int) (r1 : Bool) (r2 : ByteArray) (r3 : ByteArray) (w : World) (hr0_0 : Kd.C (Kd.int .i64) w A0_0 l0_0.length l0_0) (hc0_0 : l0_0.length ≤ c0_0) (hr0_1 : Kd.C k36 w A0_1 l0_1.length l0_1) (hc0_1 : l0_1.length ≤ c0_1) (hr0_2 : Kd.C k38 w A0_2 l0_2.length l0_2) (hc0_2 : l0_2.length ≤ c0_2) (hr1 : Kd.C (Kd.int .i64) w A1 l1.length l1) (hc1 : l1.length ≤ c1) (h : insolvencylaw8_votes.f k l0_0 l0_1 l0_2 l1 a2 a3 = some (r1, r2, r3)) :
  Calls Tryd.prog 17 #[.agg #[.slice A0_0 l0_0.length c0_0, .slice A0_1 l0_1.length c0_1, .slice A0_2 l0_2.length c0_2], .slice A1 l1.length c1, .int .i64 a2, .int .i64 a3] w fun e w' => e = .returned (.agg #[.bool r1, .string r2, .string r3]) ∧ Below w.heap.size w w' := by
 have hu26 := Tryd.underlying26
 have hu33 := Tryd.underlying33
 have hu36 := Tryd.underlying36
 have HR0_0 := Aside0.mk hr0_0
 have HC0_0 := Aside0.mk hc0_0
 clear hr0_0 hc0_0
 have HR0_1 := Aside0.mk hr0_1
 have HC0_1 := Aside0.mk hc0_1
 clear hr0_1 hc0_1
 have HR0_2 := Aside0.mk hr0_2
 have HC0_2 := Aside0.mk hc0_2
 clear hr0_2 hc0_2
 have HR1 := Aside0.mk hr1
 have HC1 := Aside0.mk hc1
 clear hr1 hc1
 have HB := aM (Below.refl w.heap.size w)
 have H : (insolvencylaw8_votes.l0 k l1 a2 a3 l0_1 (l0_1.length : Int) 0 false (⟨#[]⟩ : ByteArray) (⟨#[]⟩ : ByteArray)) = some (r1, r2, r3) := h
 clear h
 have H' := Aside0.mk H
 clear H
 go_enter Tryd.func17, Tryd.ntmps17
 go_wp2_with (first | ((with_reducible refine gate_dst (N := 4) rfl ?_); refine box_event ?hg (N := 4) ?hd (cs := #[.slice A0_0 l0_0.length c0_0, .slice A0_1 l0_1.length c0_1, .slice A0_2 l0_2.length c0_2]) (t := 26) ?hr ?_; (case hd => rfl); (case hg => rfl); (case hr => first | (go_simp; done) | (go_simp; rfl)); intro gb584 hg w5 hbox hb; have n0_ := aM (below_step (bU HB.out) hb); have n1_ := aM (hbox); have n2_ := aM ((by rw [hg]; exact (below_size (bU HB.out)) : w.heap.size ≤ gb584)); have n3_ := aM ((by rw [hg]; exact (below_size (bU HB.out)) : w.heap.size ≤ gb584)); clear HB; have HB := n0_; have BK584 := n1_; have GW584 := n2_; have GE584 := n3_; clear n0_ n1_ n2_ n3_; clear hb hbox hg) | ((with_reducible refine gate_dst (N := 8) rfl ?_); refine box_event ?hg (N := 8) ?hd (cs := #[.bool false, .string (⟨#[]⟩ : ByteArray), .string (⟨#[]⟩ : ByteArray)]) (t := 33) ?hr ?_; (case hd => rfl); (case hg => rfl); (case hr => first | (go_simp; done) | (go_simp; rfl)); intro gb585 hg w6 hbox hb; have n0_ := aM (blk_below (kU BK584.out) hb); have n1_ := aM (below_step (bU HB.out) hb); have n2_ := aM (hbox); have n3_ := aM ((by rw [hg]; exact (below_size (bU HB.out)) : w.heap.size ≤ gb585)); have n4_ := aM ((by rw [hg]; exact (below_size (bU HB.out)) : w.heap.size ≤ gb585)); have n5_ := aM ((by rw [hg]; exact Nat.ne_of_lt (blk_lt (kU BK584.out)) : gb584 ≠ gb585)); have n6_ := aM ((by rw [hg]; exact Nat.ne_of_gt (blk_lt (kU BK584.out)) : gb585 ≠ gb584)); clear BK584; clear HB; have BK584 := n0_; have HB := n1_; have BK585 := n2_; have GW585 := n3_; have GE585 := n4_; have NB584_585 := n5_; have NB585_584 := n6_; clear n0_ n1_ n2_ n3_ n4_ n5_ n6_; clear hb hbox hg) | ((with_reducible refine gate_dst (N := 9) rfl ?_); refine box_event ?hg (N := 9) ?hd (cs := #[.bool false, .string (⟨#[]⟩ : ByteArray), .string (⟨#[]⟩ : ByteArray)]) (t := 33) ?hr ?_; (case hd => rfl); (case hg => rfl); (case hr => first | (go_simp; done) | (go_simp; rfl)); intro gb586 hg w7 hbox hb; have n0_ := aM (blk_below (kU BK584.out) hb); have n1_ := aM (blk_below (kU BK585.out) hb); have n2_ := aM (below_step (bU HB.out) hb); have n3_ := aM (hbox); have n4_ := aM ((by rw [hg]; exact (below_size (bU HB.out)) : w.heap.size ≤ gb586)); have n5_ := aM ((by rw [hg]; exact (below_size (bU HB.out)) : w.heap.size ≤ gb586)); have n6_ := aM ((by rw [hg]; exact Nat.ne_of_lt (blk_lt (kU BK584.out)) : gb584 ≠ gb586)); have n7_ := aM ((by rw [hg]; exact Nat.ne_of_gt (blk_lt (kU BK584.out)) : gb586 ≠ gb584)); have n8_ := aM ((by rw [hg]; exact Nat.ne_of_lt (blk_lt (kU BK585.out)) : gb585 ≠ gb586)); have n9_ := aM ((by rw [hg]; exact Nat.ne_of_gt (blk_lt (kU BK585.out)) : gb586 ≠ gb585)); clear BK584; clear BK585; clear HB; have BK584 := n0_; have BK585 := n1_; have HB := n2_; have BK586 := n3_; have GW586 := n4_; have GE586 := n5_; have NB584_586 := n6_; have NB586_584 := n7_; have NB585_586 := n8_; have NB586_585 := n9_; clear n0_ n1_ n2_ n3_ n4_ n5_ n6_ n7_ n8_ n9_; clear hb hbox hg; have hnb8 := NB586_584.out; have hnc8 := NB584_586.out; have hnb9 := NB586_585.out; have hnc9 := NB585_586.out; obtain ⟨hcz10_0, hcz10_1, hcz10_2, hfz10_0, hfz10_1, hfz10_2⟩ := cz3 BK586.out; have hnb11 := NB584_585.out; have hnc11 := NB585_584.out; obtain ⟨hcz12_0, hcz12_1, hcz12_2, hfz12_0, hfz12_1, hfz12_2⟩ := cz3 BK584.out))
 go_loopg [19] k (fun kq v19 w' => ∃ (x19_1 : Int) (x587000_1 : Bool) (x587001_1 : ByteArray) (x587002_1 : ByteArray), v19 = .int .i64 x19_1 ∧ Aside0 (insolvencylaw8_votes.l0 kq l1 a2 a3 l0_1 (l0_1.length : Int) x19_1 x587000_1 x587001_1 x587002_1 = some (r1, r2, r3)) ∧ Aside0 (kq ≤ k) ∧ Aside0 (w'.heap[gb584]? = some (.cells #[(.slice A0_0 l0_0.length c0_0), (.slice A0_1 l0_1.length c0_1), (.slice A0_2 l0_2.length c0_2)] 26 (0, 0))) ∧ Aside0 (w'.heap[gb585]? = some (.cells #[.bool false, .string (⟨#[]⟩ : ByteArray), .string (⟨#[]⟩ : ByteArray)] 33 (0, 0))) ∧ Aside0 (w'.heap[gb586]? = some (.cells #[.bool x587000_1, .string x587001_1, .string x587002_1] 33 (0, 0))) ∧ Aside0 (Below w.heap.size w w'))
 case atStart => exact ⟨(0), (false), ((⟨#[]⟩ : ByteArray)), ((⟨#[]⟩ : ByteArray)), (by first | rfl | (simp; done) | (simp [*]; done)), H', ⟨Nat.le_refl _⟩, ⟨kP BK584.out⟩, ⟨kP BK585.out⟩, ⟨kP BK586.out⟩, ⟨bU HB.out⟩⟩
 case round =>
  clear H'
  try clear c1
  try clear p2
  try clear c8
  try clear c9
  try clear c11
  try clear hcz10_0 hcz10_1 hcz10_2
  try clear hcz12_0 hcz12_1 hcz12_2
  try clear hfz10_0 hfz10_1 hfz10_2
  try clear hfz12_0 hfz12_1 hfz12_2
  obtain ⟨x19_1, x587000_1, x587001_1, x587002_1, rfl, HA, HK1, BK584, BK585, BK586, HB⟩ := hrel
  cases gk with
  | zero => exact absurd HA.out (by simp [insolvencylaw8_votes.l0])
  | succ k1 =>
   have H := HA.out
   clear HA
   simp only [insolvencylaw8_votes.l0] at H
   by_cases c13 : x19_1 < (l0_1.length : Int)
   ·rw [if_pos c13] at H
    have c13b0 : decide (x19_1 < (l0_1.length : Int)) = true := decide_eq_true c13
    clear c13
    by_cases c14 : 0 ≤ x19_1
    ·rw [if_pos c14] at H
     have c14b0 : decide (0 ≤ x19_1) = true := decide_eq_true c14
     clear c14
     by_cases c15 : x19_1 < (l0_1.length : Int)
     ·rw [if_pos c15] at H
      have c15b0 : decide (x19_1 < (l0_1.length : Int)) = true := decide_eq_true c15
      clear c15
      have H' := Aside0.mk H
      clear H
      have p587 : 0 ≤ (x19_1 : Int) := oD
      have q587 : x19_1 < (l0_1.length : Int) := oD
      obtain ⟨ad587, e587, hx587_0, hx587_1, hx587_2, hx587_3, hx587_4⟩ := at_T36 HR0_1.out x19_1 p587 q587
      cases e587
      replace hx587_0 := (HB.out.cell (World.block_lt_of_cell? w _ hx587_0)).trans hx587_0
      replace hx587_1 := (HB.out.cell (World.block_lt_of_cell? w _ hx587_1)).trans hx587_1
      replace hx587_2 := (HB.out.cell (World.block_lt_of_cell? w _ hx587_2)).trans hx587_2
      replace hx587_3 := (HB.out.cell (World.block_lt_of_cell? w _ hx587_3)).trans hx587_3
      replace hx587_4 := (HB.out.cell (World.block_lt_of_cell? w _ hx587_4)).trans hx587_4
      replace p587 := eq_true p587
      replace q587 := eq_true q587
      go_wp2_with (first | ((with_reducible refine gate_dst (N := 11) rfl ?_); refine box_event ?hg (N := 11) ?hd (cs := #[.int .i64 0, .int .i64 0, .bool false, .string (⟨#[]⟩ : ByteArray), .string (⟨#[]⟩ : ByteArray)]) (t := 36) ?hr ?_; (case hd => rfl); (case hg => rfl); (case hr => first | (go_simp; done) | (go_simp; rfl)); intro gb588 hg w16 hbox hb; have n0_ := aM (blk_below (kU BK584.out) hb); have n1_ := aM (blk_below (kU BK585.out) hb); have n2_ := aM (blk_below (kU BK586.out) hb); have n3_ := aM (below_step (bU HB.out) hb); have n4_ := aM (hbox); have n5_ := aM ((by rw [hg]; exact (below_size (bU HB.out)) : w.heap.size ≤ gb588)); have n6_ := aM ((by rw [hg]; exact (below_size (bU HB.out)) : w.heap.size ≤ gb588)); have n7_ := aM ((by rw [hg]; exact Nat.ne_of_lt (blk_lt (kU BK584.out)) : gb584 ≠ gb588)); have n8_ := aM ((by rw [hg]; exact Nat.ne_of_gt (blk_lt (kU BK584.out)) : gb588 ≠ gb584)); have n9_ := aM ((by rw [hg]; exact Nat.ne_of_lt (blk_lt (kU BK585.out)) : gb585 ≠ gb588)); have n10_ := aM ((by rw [hg]; exact Nat.ne_of_gt (blk_lt (kU BK585.out)) : gb588 ≠ gb585)); have n11_ := aM ((by rw [hg]; exact Nat.ne_of_lt (blk_lt (kU BK586.out)) : gb586 ≠ gb588)); have n12_ := aM ((by rw [hg]; exact Nat.ne_of_gt (blk_lt (kU BK586.out)) : gb588 ≠ gb586)); clear BK584; clear BK585; clear BK586; clear HB; have BK584 := n0_; have BK585 := n1_; have BK586 := n2_; have HB := n3_; have BK588 := n4_; have GW588 := n5_; have GE588 := n6_; have NB584_588 := n7_; have NB588_584 := n8_; have NB585_588 := n9_; have NB588_585 := n10_; have NB586_588 := n11_; have NB588_586 := n12_; clear n0_ n1_ n2_ n3_ n4_ n5_ n6_ n7_ n8_ n9_ n10_ n11_ n12_; clear hb hbox hg; have hnb17 := NB588_584.out; have hnc17 := NB584_588.out; have hnb18 := NB588_585.out; have hnc18 := NB585_588.out; have hnb19 := NB588_586.out; have hnc19 := NB586_588.out; obtain ⟨hcz20_0, hcz20_1, hcz20_2, hcz20_3, hcz20_4, hfz20_0, hfz20_1, hfz20_2, hfz20_3, hfz20_4⟩ := cz5 BK588.out))
      go_loopg [12, 29] k1 (fun kq v12 v29 w' => ∃ (x12_2 : Bool) (x29_2 : Int), v12 = .bool x12_2 ∧ v29 = .int .i64 x29_2 ∧ Aside0 (insolvencylaw8_votes.l1 kq l1 a2 a3 x12_2 l0_1 (l0_1.length : Int) x19_1 l1 (l1.length : Int) x29_2 x587000_1 x587001_1 x587002_1 ((rd_T36 l0_1 x19_1).f0) ((rd_T36 l0_1 x19_1).f1) ((rd_T36 l0_1 x19_1).f2.f0) ((rd_T36 l0_1 x19_1).f2.f1) ((rd_T36 l0_1 x19_1).f2.f2) = some (r1, r2, r3)) ∧ Aside0 (kq ≤ k1) ∧ Aside0 (w'.heap[gb584]? = some (.cells #[(.slice A0_0 l0_0.length c0_0), (.slice (some ad587) l0_1.length c0_1), (.slice A0_2 l0_2.length c0_2)] 26 (0, 0))) ∧ Aside0 (w'.heap[gb585]? = some (.cells #[.bool false, .string (⟨#[]⟩ : ByteArray), .string (⟨#[]⟩ : ByteArray)] 33 (0, 0))) ∧ Aside0 (w'.heap[gb586]? = some (.cells #[.bool x587000_1, .string x587001_1, .string x587002_1] 33 (0, 0))) ∧ Aside0 (w'.heap[gb588]? = some (.cells #[.int .i64 ((rd_T36 l0_1 x19_1).f0), .int .i64 ((rd_T36 l0_1 x19_1).f1), .bool ((rd_T36 l0_1 x19_1).f2.f0), .string ((rd_T36 l0_1 x19_1).f2.f1), .string ((rd_T36 l0_1 x19_1).f2.f2)] 36 (0, 0))) ∧ Aside0 (Below w.heap.size w w'))
      case atStart => exact ⟨((((rd_T36 l0_1 x19_1).f0) == a2)), (0), (by first | rfl | (simp; done) | (simp [*]; done)), (by first | rfl | (simp; done) | (simp [*]; done)), H', ⟨Nat.le_refl _⟩, ⟨kP BK584.out⟩, ⟨kP BK585.out⟩, ⟨kP BK586.out⟩, ⟨kP BK588.out⟩, ⟨bU HB.out⟩⟩
      case round =>
       clear H'
       try clear c1
       try clear p2
       try clear p5
       try clear q5
       try clear hx5
       try clear c8
       try clear c9
       try clear c11
       try clear c13
       try clear c13b0
       try clear c14
       try clear c14b0
       try clear c15
       try clear c15b0
       try clear c17
       try clear c18
       try clear c19
       try clear hcz10_0 hcz10_1 hcz10_2
       try clear hcz12_0 hcz12_1 hcz12_2
       try clear hcz20_0 hcz20_1 hcz20_2 hcz20_3 hcz20_4
       try clear hfz10_0 hfz10_1 hfz10_2
       try clear hfz12_0 hfz12_1 hfz12_2
       try clear hfz20_0 hfz20_1 hfz20_2 hfz20_3 hfz20_4
       try clear hx587_0
       try clear hx587_1
       try clear hx587_2
       try clear hx587_3
       try clear hx587_4
       try clear p2
       try clear p587
       try clear q587
       obtain ⟨x12_2, x29_2, rfl, rfl, HA, HK2, BK584, BK585, BK586, BK588, HB⟩ := hrel
       cases gk with
       | zero => exact absurd HA.out (by simp [insolvencylaw8_votes.l1])
       | succ k2 =>
        have H := HA.out
        clear HA
        simp only [insolvencylaw8_votes.l1] at H
        by_cases c21 : x29_2 < (l1.length : Int)
        ·rw [if_pos c21] at H
         have c21b0 : decide (x29_2 < (l1.length : Int)) = true := decide_eq_true c21
         clear c21
         by_cases c22 : 0 ≤ x29_2
         ·rw [if_pos c22] at H
          have c22b0 : decide (0 ≤ x29_2) = true := decide_eq_true c22
          clear c22
          by_cases c23 : x29_2 < (l1.length : Int)
          ·rw [if_pos c23] at H
           have c23b0 : decide (x29_2 < (l1.length : Int)) = true := decide_eq_true c23
           clear c23
           by_cases c24 : x12_2 = true
           ·subst c24
            have H1 : (insolvencylaw8_votes.l1 k2 l1 a2 a3 true l0_1 (l0_1.length : Int) x19_1 l1 (l1.length : Int) (wrap64 (x29_2 + 1)) x587000_1 x587001_1 x587002_1 ((rd_T36 l0_1 x19_1).f0) ((rd_T36 l0_1 x19_1).f1) ((rd_T36 l0_1 x19_1).f2.f0) ((rd_T36 l0_1 x19_1).f2.f1) ((rd_T36 l0_1 x19_1).f2.f2)) = some (r1, r2, r3) := by rw [if_pos rfl] at H; exact H
            clear H
            have H := H1
            clear H1
            have H' := Aside0.mk H
            clear H
            have p589 : 0 ≤ (x29_2 : Int) := oD
            have q589 : x29_2 < (l1.length : Int) := oD
            obtain ⟨ad589, e589, hx589_0⟩ := Kd.at_int HR1.out x29_2 p589 q589
            cases e589
            replace hx589_0 := (HB.out.cell (World.block_lt_of_cell? w _ hx589_0)).trans hx589_0
            replace p589 := eq_true p589
            replace q589 := eq_true q589
            go_wp2
            go_roundg k2
            case measure => have := HK1.out; have := HK2.out; omega
            case rel => exact ⟨(true), (wrap64 (x29_2 + 1)), (by first | rfl | (simp; done) | (simp [*]; done)), (by first | rfl | (simp; done) | (simp [*]; done)), H', ⟨by have := HK1.out; have := HK2.out; omega⟩, ⟨kU BK584.out⟩, ⟨kU BK585.out⟩, ⟨kU BK586.out⟩, ⟨kU BK588.out⟩, ⟨bU HB.out⟩⟩
           ·replace c24 := Bool.eq_false_iff.mpr c24
            subst c24
            have H1 : (insolvencylaw8_votes.l1 k2 l1 a2 a3 ((rd l1 x29_2) == ((rd_T36 l0_1 x19_1).f0)) l0_1 (l0_1.length : Int) x19_1 l1 (l1.length : Int) (wrap64 (x29_2 + 1)) x587000_1 x587001_1 x587002_1 ((rd_T36 l0_1 x19_1).f0) ((rd_T36 l0_1 x19_1).f1) ((rd_T36 l0_1 x19_1).f2.f0) ((rd_T36 l0_1 x19_1).f2.f1) ((rd_T36 l0_1 x19_1).f2.f2)) = some (r1, r2, r3) := by rw [if_neg (show ¬ (false = true) by decide)] at H; exact H
            clear H
            have H := H1
            clear H1
            have H' := Aside0.mk H
            clear H
            have p589 : 0 ≤ (x29_2 : Int) := oD
            have q589 : x29_2 < (l1.length : Int) := oD
            obtain ⟨ad589, e589, hx589_0⟩ := Kd.at_int HR1.out x29_2 p589 q589
            cases e589
            replace hx589_0 := (HB.out.cell (World.block_lt_of_cell? w _ hx589_0)).trans hx589_0
            replace p589 := eq_true p589
            replace q589 := eq_true q589
            have hnb25 := NB588_584.out
            have hnc25 := NB584_588.out
            have hnb26 := NB588_585.out
            have hnc26 := NB585_588.out
            have hnb27 := NB588_586.out
            have hnc27 := NB586_588.out
            obtain ⟨hcz28_0, hcz28_1, hcz28_2, hcz28_3, hcz28_4, hfz28_0, hfz28_1, hfz28_2, hfz28_3, hfz28_4⟩ := cz5 BK588.out
            go_wp2
            go_roundg k2
            case measure => have := HK1.out; have := HK2.out; omega
            case rel => exact ⟨(((rd l1 x29_2) == ((rd_T36 l0_1 x19_1).f0))), (wrap64 (x29_2 + 1)), (by first | rfl | (simp; done) | (simp [*]; done)), (by first | rfl | (simp; done) | (simp [*]; done)), H', ⟨by have := HK1.out; have := HK2.out; omega⟩, ⟨kU BK584.out⟩, ⟨kU BK585.out⟩, ⟨kU BK586.out⟩, ⟨kU BK588.out⟩, ⟨bU HB.out⟩⟩
          ·rw [if_neg c23] at H
           exact absurd H (by simp)
         ·rw [if_neg c22] at H
          exact absurd H (by simp)
        ·rw [if_neg c21] at H
         have c21b0 : decide (x29_2 < (l1.length : Int)) = false := decide_eq_false c21
         clear c21
         by_cases c29 : x12_2 = true
         ·subst c29
          have H1 : (if ((rd_T36 l0_1 x19_1).f1) = a3 then ((rational_Add.f k2 x587000_1 x587001_1 x587002_1 ((rd_T36 l0_1 x19_1).f2.f0) ((rd_T36 l0_1 x19_1).f2.f1) ((rd_T36 l0_1 x19_1).f2.f2)).bind fun bt590 => (insolvencylaw8_votes.l0 k2 l1 a2 a3 l0_1 (l0_1.length : Int) (wrap64 (x19_1 + 1)) bt590.1 bt590.2.1 bt590.2.2)) else (insolvencylaw8_votes.l0 k2 l1 a2 a3 l0_1 (l0_1.length : Int) (wrap64 (x19_1 + 1)) x587000_1 x587001_1 x587002_1)) = some (r1, r2, r3) := by rw [if_pos rfl] at H; exact H
          clear H
          have H := H1
          clear H1
          by_cases c30 : ((rd_T36 l0_1 x19_1).f1) = a3
          ·rw [if_pos c30] at H
           have c30b0 : (((rd_T36 l0_1 x19_1).f1) == a3) = true := beq_iff_eq.mpr c30
           have c30b1 : (((rd_T36 l0_1 x19_1).f1) != a3) = false := bne_eq_false_iff_eq.mpr c30
           clear c30
           replace H := bE H
           obtain ⟨⟨t590, t591, t592⟩, A310, H⟩ := H
           replace H : (insolvencylaw8_votes.l0 k2 l1 a2 a3 l0_1 (l0_1.length : Int) (wrap64 (x19_1 + 1)) t590 t591 t592) = some (r1, r2, r3) := H
           have A31 := Aside0.mk A310
           clear A310
           have H' := Aside0.mk H
           clear H
           have hnb32 := NB588_584.out
           have hnc32 := NB584_588.out
           have hnb33 := NB588_585.out
           have hnc33 := NB585_588.out
           have hnb34 := NB588_586.out
           have hnc34 := NB586_588.out
           obtain ⟨hcz35_0, hcz35_1, hcz35_2, hcz35_3, hcz35_4, hfz35_0, hfz35_1, hfz35_2, hfz35_3, hfz35_4⟩ := cz5 BK588.out
           have hnb36 := NB586_584.out
           have hnc36 := NB584_586.out
           have hnb37 := NB586_585.out
           have hnc37 := NB585_586.out
           obtain ⟨hcz38_0, hcz38_1, hcz38_2, hfz38_0, hfz38_1, hfz38_2⟩ := cz3 BK586.out
           go_wp2_with (first | ((with_reducible refine gate_callee (f := 23) rfl ?_); refine goesLq (some 51) rfl rfl Tryd.func23 #[.agg #[.bool x587000_1, .string x587001_1, .string x587002_1], .agg #[.bool ((rd_T36 l0_1 x19_1).f2.f0), .string ((rd_T36 l0_1 x19_1).f2.f1), .string ((rd_T36 l0_1 x19_1).f2.f2)]] rfl ?_; (with_reducible refine (rational_Add.calls k2 x587000_1 x587001_1 x587002_1 ((rd_T36 l0_1 x19_1).f2.f0) ((rd_T36 l0_1 x19_1).f2.f1) ((rd_T36 l0_1 x19_1).f2.f2) t590 t591 t592 _ A31.out).mono ?_); rintro e w39 ⟨rfl, hb⟩; refine ⟨_, rfl, ?_⟩; have n0_ := aM (blk_below (kU BK584.out) hb); have n1_ := aM (blk_below (kU BK585.out) hb); have n2_ := aM (blk_below (kU BK586.out) hb); have n3_ := aM (blk_below (kU BK588.out) hb); have n4_ := aM (below_step (bU HB.out) hb); clear BK584; clear BK585; clear BK586; clear BK588; clear HB; have BK584 := n0_; have BK585 := n1_; have BK586 := n2_; have BK588 := n3_; have HB := n4_; clear n0_ n1_ n2_ n3_ n4_; (try clear hb); (try clear hb2); (try clear hk); (try clear hi); obtain ⟨hcz40_0, hcz40_1, hcz40_2, hfz40_0, hfz40_1, hfz40_2⟩ := cz3 BK586.out))
           go_roundg k2
           case measure => have := HK1.out; have := HK2.out; omega
           case rel => exact ⟨(wrap64 (x19_1 + 1)), (t590), (t591), (t592), (by first | rfl | (simp; done) | (simp [*]; done)), H', ⟨by have := HK1.out; have := HK2.out; omega⟩, ⟨kP BK584.out⟩, ⟨kP BK585.out⟩, ⟨kP BK586.out⟩, ⟨bU HB.out⟩⟩
          ·rw [if_neg c30] at H
           have c30b0 : (((rd_T36 l0_1 x19_1).f1) == a3) = false := beq_eq_false_iff_ne.mpr c30
           have c30b1 : (((rd_T36 l0_1 x19_1).f1) != a3) = true := bne_iff_ne.mpr c30
           have H' := Aside0.mk H
           clear H
           have hnb41 := NB588_584.out
           have hnc41 := NB584_588.out
           have hnb42 := NB588_585.out
           have hnc42 := NB585_588.out
           have hnb43 := NB588_586.out
           have hnc43 := NB586_588.out
           obtain ⟨hcz44_0, hcz44_1, hcz44_2, hcz44_3, hcz44_4, hfz44_0, hfz44_1, hfz44_2, hfz44_3, hfz44_4⟩ := cz5 BK588.out
           go_wp2
           go_roundg k2
           case measure => have := HK1.out; have := HK2.out; omega
           case rel => exact ⟨(wrap64 (x19_1 + 1)), (x587000_1), (x587001_1), (x587002_1), (by first | rfl | (simp; done) | (simp [*]; done)), H', ⟨by have := HK1.out; have := HK2.out; omega⟩, ⟨kU BK584.out⟩, ⟨kU BK585.out⟩, ⟨kU BK586.out⟩, ⟨bU HB.out⟩⟩
         ·replace c29 := Bool.eq_false_iff.mpr c29
          subst c29
          have H1 : (insolvencylaw8_votes.l0 k2 l1 a2 a3 l0_1 (l0_1.length : Int) (wrap64 (x19_1 + 1)) x587000_1 x587001_1 x587002_1) = some (r1, r2, r3) := by rw [if_neg (show ¬ (false = true) by decide)] at H; exact H
          clear H
          have H := H1
          clear H1
          have H' := Aside0.mk H
          clear H
          go_wp2
          go_roundg k2
          case measure => have := HK1.out; have := HK2.out; omega
          case rel => exact ⟨(wrap64 (x19_1 + 1)), (x587000_1), (x587001_1), (x587002_1), (by first | rfl | (simp; done) | (simp [*]; done)), H', ⟨by have := HK1.out; have := HK2.out; omega⟩, ⟨kU BK584.out⟩, ⟨kU BK585.out⟩, ⟨kU BK586.out⟩, ⟨bU HB.out⟩⟩
     ·rw [if_neg c15] at H
      exact absurd H (by simp)
    ·rw [if_neg c14] at H
     exact absurd H (by simp)
   ·rw [if_neg c13] at H
    have c13b0 : decide (x19_1 < (l0_1.length : Int)) = false := decide_eq_false c13
    clear c13
    simp only [Option.some.injEq, Prod.mk.injEq] at H
    obtain ⟨rfl, rfl, rfl⟩ := H
    have hnb45 := NB586_584.out
    have hnc45 := NB584_586.out
    have hnb46 := NB586_585.out
    have hnc46 := NB585_586.out
    obtain ⟨hcz47_0, hcz47_1, hcz47_2, hfz47_0, hfz47_1, hfz47_2⟩ := cz3 BK586.out
    have hnb48 := NB585_584.out
    have hnc48 := NB584_585.out
    obtain ⟨hcz49_0, hcz49_1, hcz49_2, hfz49_0, hfz49_1, hfz49_2⟩ := cz3 BK585.out
    go_wp2
    refine bodyPost_ret (results_cell_row rfl _ _ gb585 33 #[.bool x587000_1, .string x587001_1, .string x587002_1] (0, 0) _ rfl (kP BK585.out) Tryd.underlying33 rfl (by kernel_rfl)) rfl ?_
    exact ⟨by first | rfl | (simp [errW_none, errW_some] <;> rfl) | (simp [*, errW_none, errW_some] <;> rfl), bU HB.out⟩

/-! ### insolvencylaw8_PartyFixpoint: function 5 -/
mutual
def insolvencylaw8_PartyFixpoint.l0 : Nat → Int → List Int → Int → Int → List Int → List (S36) → List (S38) → Option (Bool)
 | 0, _, _, _, _, _, _, _ => none
 | k + 1, x10, x11, x38, x39, x603000, x603001, x603002 => if x39 < x38 then (insolvencylaw8_PartyFixpoint.l1 k x10 x11 x39 false x38 x39 x11 (x11.length : Int) 0 x603000 x603001 x603002) else ((insolvencylaw8_awake.f k).bind fun t607 => (some t607))
def insolvencylaw8_PartyFixpoint.l1 : Nat → Int → List Int → Int → Bool → Int → Int → List Int → Int → Int → List Int → List (S36) → List (S38) → Option (Bool)
 | 0, _, _, _, _, _, _, _, _, _, _, _, _ => none
 | k + 1, x10, x11, x13, x14, x38, x39, x42, x43, x44, x603000, x603001, x603002 => if x44 < x43 then (if 0 ≤ x44 then (if x44 < (x42.length : Int) then (if x14 = true then (insolvencylaw8_PartyFixpoint.l1 k x10 x11 x13 true x38 x39 x42 x43 (wrap64 (x44 + 1)) x603000 x603001 x603002) else (insolvencylaw8_PartyFixpoint.l1 k x10 x11 x13 ((rd x42 x44) == x13) x38 x39 x42 x43 (wrap64 (x44 + 1)) x603000 x603001 x603002)) else (none)) else (none)) else ((insolvencylaw8_votes.f k x603000 x603001 x603002 x11 x10 x13).bind fun bt609 => ((insolvencylaw0_Ratio.f k 1 2).bind fun bt612 => ((rational_Compare.f k bt609.1 bt609.2.1 bt609.2.2 bt612.1 bt612.2.1 bt612.2.2).bind fun t615 => (if x13 = x10 then (if x14 = true then (some false) else (insolvencylaw8_PartyFixpoint.l0 k x10 x11 x38 (wrap64 (x39 + 1)) x603000 x603001 x603002)) else (if (x14 != (decide (t615 > 0))) = true then (some false) else (insolvencylaw8_PartyFixpoint.l0 k x10 x11 x38 (wrap64 (x39 + 1)) x603000 x603001 x603002))))))
end
def insolvencylaw8_PartyFixpoint.f (k : Nat) (a0 : Int) (a1 : Int) (l2 : List (S65)) (a3 : Int) : Option (Bool) := (insolvencylaw0_Parties.f k a0 a1 l2 ([] : List (S66))).bind fun bt593 => (if (bt593.1.length : Int) = 0 then (none) else ((party_Controlled.f k bt593.1 bt593.2.1 bt593.2.2 (Int.tmod (wrap64 (a3)) (bt593.1.length : Int))).bind fun bt603 => (if bt603.2 = 0 then (insolvencylaw8_PartyFixpoint.l0 k (Int.tmod (wrap64 (a3)) (bt593.1.length : Int)) bt603.1 (bt593.1.length : Int) 0 bt593.1 bt593.2.1 bt593.2.2) else (some false))))
theorem insolvencylaw8_PartyFixpoint.mono_l : ∀ k, (∀ y0 y1 y2 y3 y4 y5 y6, LeO (insolvencylaw8_PartyFixpoint.l0 k y0 y1 y2 y3 y4 y5 y6) (insolvencylaw8_PartyFixpoint.l0 (k + 1) y0 y1 y2 y3 y4 y5 y6)) ∧ (∀ y0 y1 y2 y3 y4 y5 y6 y7 y8 y9 y10 y11, LeO (insolvencylaw8_PartyFixpoint.l1 k y0 y1 y2 y3 y4 y5 y6 y7 y8 y9 y10 y11) (insolvencylaw8_PartyFixpoint.l1 (k + 1) y0 y1 y2 y3 y4 y5 y6 y7 y8 y9 y10 y11))
 | 0 => ⟨fun _ _ _ _ _ _ _ r h => by simp [insolvencylaw8_PartyFixpoint.l0] at h, fun _ _ _ _ _ _ _ _ _ _ _ _ r h => by simp [insolvencylaw8_PartyFixpoint.l1] at h⟩
 | k + 1 => by
  obtain ⟨ih0, ih1⟩ := insolvencylaw8_PartyFixpoint.mono_l k
  refine ⟨?_, ?_⟩
  ·intro y0 y1 y2 y3 y4 y5 y6
   unfold insolvencylaw8_PartyFixpoint.l0
   repeat' first
   | (with_reducible exact ih0 _ _ _ _ _ _ _)
   | (with_reducible exact ih1 _ _ _ _ _ _ _ _ _ _ _ _)
   | (with_reducible exact insolvencylaw0_Parties.mono _ _ _ _ _)
   | (with_reducible exact insolvencylaw0_Ratio.mono _ _ _)
   | (with_reducible exact insolvencylaw8_awake.mono _)
   | (with_reducible exact insolvencylaw8_votes.mono _ _ _ _ _ _ _)
   | (with_reducible exact party_Controlled.mono _ _ _ _ _)
   | (with_reducible exact rational_Compare.mono _ _ _ _ _ _ _)
   | (with_reducible exact LeO.refl _)
   | (with_reducible exact LeO.none _)
   | (with_reducible refine LeO.ite ?_ ?_)
   | (with_reducible refine LeO.bind ?_ (fun _ => ?_))
   | exact LeO.none _
   | refine LeO.ite ?_ ?_
   | refine LeO.bind ?_ (fun _ => ?_)
  ·intro y0 y1 y2 y3 y4 y5 y6 y7 y8 y9 y10 y11
   unfold insolvencylaw8_PartyFixpoint.l1
   repeat' first
   | (with_reducible exact ih0 _ _ _ _ _ _ _)
   | (with_reducible exact ih1 _ _ _ _ _ _ _ _ _ _ _ _)
   | (with_reducible exact insolvencylaw0_Parties.mono _ _ _ _ _)
   | (with_reducible exact insolvencylaw0_Ratio.mono _ _ _)
   | (with_reducible exact insolvencylaw8_awake.mono _)
   | (with_reducible exact insolvencylaw8_votes.mono _ _ _ _ _ _ _)
   | (with_reducible exact party_Controlled.mono _ _ _ _ _)
   | (with_reducible exact rational_Compare.mono _ _ _ _ _ _ _)
   | (with_reducible exact LeO.refl _)
   | (with_reducible exact LeO.none _)
   | (with_reducible refine LeO.ite ?_ ?_)
   | (with_reducible refine LeO.bind ?_ (fun _ => ?_))
   | exact LeO.none _
   | refine LeO.ite ?_ ?_
   | refine LeO.bind ?_ (fun _ => ?_)
theorem insolvencylaw8_PartyFixpoint.mono : ∀ a0 a1 a2 a3 k, LeO (insolvencylaw8_PartyFixpoint.f k a0 a1 a2 a3) (insolvencylaw8_PartyFixpoint.f (k + 1) a0 a1 a2 a3) := by
 intro a0 a1 a2 a3 k
 obtain ⟨ih0, ih1⟩ := insolvencylaw8_PartyFixpoint.mono_l k
 unfold insolvencylaw8_PartyFixpoint.f
 repeat' first
   | (with_reducible exact ih0 _ _ _ _ _ _ _)
   | (with_reducible exact ih1 _ _ _ _ _ _ _ _ _ _ _ _)
   | (with_reducible exact insolvencylaw0_Parties.mono _ _ _ _ _)
   | (with_reducible exact insolvencylaw0_Ratio.mono _ _ _)
   | (with_reducible exact insolvencylaw8_awake.mono _)
   | (with_reducible exact insolvencylaw8_votes.mono _ _ _ _ _ _ _)
   | (with_reducible exact party_Controlled.mono _ _ _ _ _)
   | (with_reducible exact rational_Compare.mono _ _ _ _ _ _ _)
   | (with_reducible exact LeO.refl _)
   | (with_reducible exact LeO.none _)
   | (with_reducible refine LeO.ite ?_ ?_)
   | (with_reducible refine LeO.bind ?_ (fun _ => ?_))
   | exact LeO.none _
   | refine LeO.ite ?_ ?_
   | refine LeO.bind ?_ (fun _ => ?_)
set_option maxHeartbeats 8000000 in
set_option maxRecDepth 100000 in
theorem insolvencylaw8_PartyFixpoint.calls (k : Nat) (a0 : Int) (a1 : Int) (A2 : Option Addr) (c2 : Nat) (l2 : List (S65)) (a3 : Int) (r : Bool) (w : World) (hr2 : Kd.C k65 w A2 l2.length l2) (hc2 : l2.length ≤ c2) (h : insolvencylaw8_PartyFixpoint.f k a0 a1 l2 a3 = some r) :
  Calls Tryd.prog 5 #[.int .u8 a0, .int .u16 a1, .slice A2 l2.length c2, .int .u8 a3] w fun e w' => e = .returned (.bool r) ∧ Below w.heap.size w w' := by
 have hu26 := Tryd.underlying26
 have HR2 := Aside0.mk hr2
 have HC2 := Aside0.mk hc2
 clear hr2 hc2
 have HB := aM (Below.refl w.heap.size w)
 have H : ((insolvencylaw0_Parties.f k a0 a1 l2 ([] : List (S66))).bind fun bt593 => (if (bt593.1.length : Int) = 0 then (none) else ((party_Controlled.f k bt593.1 bt593.2.1 bt593.2.2 (Int.tmod (wrap64 (a3)) (bt593.1.length : Int))).bind fun bt603 => (if bt603.2 = 0 then (insolvencylaw8_PartyFixpoint.l0 k (Int.tmod (wrap64 (a3)) (bt593.1.length : Int)) bt603.1 (bt593.1.length : Int) 0 bt593.1 bt593.2.1 bt593.2.2) else (some false))))) = some r := h
 clear h
 replace H := bE H
 obtain ⟨⟨t593, t596, t599⟩, A50, H⟩ := H
 replace H : (if (t593.length : Int) = 0 then (none) else ((party_Controlled.f k t593 t596 t599 (Int.tmod (wrap64 (a3)) (t593.length : Int))).bind fun bt603 => (if bt603.2 = 0 then (insolvencylaw8_PartyFixpoint.l0 k (Int.tmod (wrap64 (a3)) (t593.length : Int)) bt603.1 (t593.length : Int) 0 t593 t596 t599) else (some false)))) = some r := H
 have A5 := Aside0.mk A50
 clear A50
 by_cases c6 : (t593.length : Int) = 0
 ·rw [if_pos c6] at H
  exact absurd H (by simp)
 ·rw [if_neg c6] at H
  have c6b0 : ((t593.length : Int) == 0) = false := beq_eq_false_iff_ne.mpr c6
  have c6b1 : ((t593.length : Int) != 0) = true := bne_iff_ne.mpr c6
  have c6b2 : ¬ (t593 = []) := fun h_ => c6 (by rw [h_]; rfl)
  replace H := bE H
  obtain ⟨⟨t603, t606⟩, A70, H⟩ := H
  replace H : (if t606 = 0 then (insolvencylaw8_PartyFixpoint.l0 k (Int.tmod (wrap64 (a3)) (t593.length : Int)) t603 (t593.length : Int) 0 t593 t596 t599) else (some false)) = some r := H
  have A7 := Aside0.mk A70
  clear A70
  by_cases c8 : t606 = 0
  ·rw [if_pos c8] at H
   have c8b0 : (t606 == 0) = true := beq_iff_eq.mpr c8
   have c8b1 : (t606 != 0) = false := bne_eq_false_iff_eq.mpr c8
   clear c8
   have H' := Aside0.mk H
   clear H
   go_enter Tryd.func5, Tryd.ntmps5
   go_wp2_with (first | ((with_reducible refine gate_callee (f := 14) rfl ?_); refine goesLq (some 21) rfl rfl Tryd.func14 #[.int .u8 a0, .int .u16 a1, .slice A2 l2.length c2, .slice none 0 0] rfl ?_; (refine (insolvencylaw0_Parties.calls k a0 a1 _ _ l2 _ _ ([] : List (S66)) t593 t596 t599 _ ?side1 ?side2 ?side3 ?side4 A5.out).mono ?_); (case side1 => repeat (first | exact HR2.out | (with_reducible refine Kd.C_alloc ?_ _) | (with_reducible refine Kd.C_drewN ?_ _) | (with_reducible refine Kd.C_drew ?_))); (case side2 => exact HC2.out); (case side3 => exact Kd.C_nil _ _); (case side4 => exact Nat.le_refl _); rintro e w9 ⟨v594, v597, v600, rfl, ho0, ho1, ho2, hb⟩; refine ⟨_, rfl, ?_⟩; have n0_ := aM (Kd.R_lower ho0 (below_size (bU HB.out))); have n1_ := aM (Kd.R_lower ho1 (below_size (bU HB.out))); have n2_ := aM (Kd.R_lower ho2 (below_size (bU HB.out))); have n3_ := aM (below_step (bU HB.out) hb); clear HB; have HO595 := n0_; have HO598 := n1_; have HO601 := n2_; have HB := n3_; clear n0_ n1_ n2_ n3_; (try clear hb); (try clear hb2); (try clear hk); (try clear hi); (try clear ho0); (try clear ho1); (try clear ho2)) | ((with_reducible refine gate_dst (N := 9) rfl ?_); refine box_event ?hg (N := 9) ?hd (cs := #[.slice none 0 0, .slice none 0 0, .slice none 0 0]) (t := 26) ?hr ?_; (case hd => rfl); (case hg => rfl); (case hr => first | (go_simp; done) | (go_simp; rfl)); intro gb602 hg w10 hbox hb; have n0_ := aM (Kd.R_below (Kd.R_up HO595.out) hb); have n1_ := aM (Kd.R_below (Kd.R_up HO598.out) hb); have n2_ := aM (Kd.R_below (Kd.R_up HO601.out) hb); have n3_ := aM (below_step (bU HB.out) hb); have n4_ := aM (hbox); have n5_ := aM ((by rw [hg]; exact (below_size (bU HB.out)) : w.heap.size ≤ gb602)); have n6_ := aM ((by rw [hg]; exact (below_size (bU HB.out)) : w.heap.size ≤ gb602)); clear HO595; clear HO598; clear HO601; clear HB; have HO595 := n0_; have HO598 := n1_; have HO601 := n2_; have HB := n3_; have BK602 := n4_; have GW602 := n5_; have GE602 := n6_; clear n0_ n1_ n2_ n3_ n4_ n5_ n6_; clear hb hbox hg; obtain ⟨Ao11, co11, eo11⟩ := Kd.R_slice HO595.out; subst eo11; obtain ⟨hcz12_0, hcz12_1, hcz12_2, hfz12_0, hfz12_1, hfz12_2⟩ := cz3 BK602.out; obtain ⟨Ao13, co13, eo13⟩ := Kd.R_slice HO598.out; subst eo13; obtain ⟨Ao14, co14, eo14⟩ := Kd.R_slice HO601.out; subst eo14) | ((with_reducible refine gate_callee (f := 15) rfl ?_); refine goesLq (some 31) rfl rfl Tryd.func15 #[.agg #[.slice Ao11 t593.length co11, .slice Ao13 t596.length co13, .slice Ao14 t599.length co14], .int .i64 (Int.tmod (wrap64 (a3)) (t593.length : Int))] rfl ?_; (with_reducible refine (party_Controlled.calls k _ _ t593 _ _ t596 _ _ t599 (Int.tmod (wrap64 (a3)) (t593.length : Int)) t603 t606 _ ?side1 ?side2 ?side3 ?side4 ?side5 ?side6 A7.out).mono ?_); (case side1 => refine (Kd.R_reads' (e := 3) (base := w.heap.size) (ok := fun k_ => True) (n := t593.length) (c := co11) ?_).2.2; exact (Kd.R_up ((Kd.R_mono (Kd.R_far (p := ⟨gb602, 2, none⟩) (Kd.R_far (p := ⟨gb602, 1, none⟩) (Kd.R_far (p := ⟨gb602, 0, none⟩) (Kd.R_types HO595.out BK602.out (by decide)) (fun _ hk => hk.2) (.slice Ao11 t593.length co11)) (fun _ hk => hk.2) (.slice Ao13 t596.length co13)) (fun _ hk => hk.2) (.slice Ao14 t599.length co14)) (fun _ h_ => h_.1))))); (case side2 => exact (Kd.R_reads' HO595.out).2.1); (case side3 => refine (Kd.R_reads' (e := 36) (base := w.heap.size) (ok := fun k_ => True) (n := t596.length) (c := co13) ?_).2.2; exact (Kd.R_up ((Kd.R_mono (Kd.R_far (p := ⟨gb602, 2, none⟩) (Kd.R_far (p := ⟨gb602, 1, none⟩) (Kd.R_far (p := ⟨gb602, 0, none⟩) (Kd.R_types HO598.out BK602.out (by decide)) (fun _ hk => hk.2) (.slice Ao11 t593.length co11)) (fun _ hk => hk.2) (.slice Ao13 t596.length co13)) (fun _ hk => hk.2) (.slice Ao14 t599.length co14)) (fun _ h_ => h_.1))))); (case side4 => exact (Kd.R_reads' HO598.out).2.1); (case side5 => refine (Kd.R_reads' (e := 38) (base := w.heap.size) (ok := fun k_ => True) (n := t599.length) (c := co14) ?_).2.2; exact (Kd.R_up ((Kd.R_mono (Kd.R_far (p := ⟨gb602, 2, none⟩) (Kd.R_far (p := ⟨gb602, 1, none⟩) (Kd.R_far (p := ⟨gb602, 0, none⟩) (Kd.R_types HO601.out BK602.out (by decide)) (fun _ hk => hk.2) (.slice Ao11 t593.length co11)) (fun _ hk => hk.2) (.slice Ao13 t596.length co13)) (fun _ hk => hk.2) (.slice Ao14 t599.length co14)) (fun _ h_ => h_.1))))); (case side6 => exact (Kd.R_reads' HO601.out).2.1); rintro e w15 ⟨v604, rfl, ho0, hb⟩; refine ⟨_, rfl, ?_⟩; have n0_ := aM (Kd.R_elder' (Kd.R_up ((Kd.R_mono (Kd.R_far (p := ⟨gb602, 2, none⟩) (Kd.R_far (p := ⟨gb602, 1, none⟩) (Kd.R_far (p := ⟨gb602, 0, none⟩) (Kd.R_types HO595.out BK602.out (by decide)) (fun _ hk => hk.2) (.slice Ao11 t593.length co11)) (fun _ hk => hk.2) (.slice Ao13 t596.length co13)) (fun _ hk => hk.2) (.slice Ao14 t599.length co14)) (fun _ h_ => h_.1)))) (Kd.R_base ho0) hb); have n1_ := aM (Kd.R_below (Kd.R_up ((Kd.R_mono (Kd.R_far (p := ⟨gb602, 2, none⟩) (Kd.R_far (p := ⟨gb602, 1, none⟩) (Kd.R_far (p := ⟨gb602, 0, none⟩) (Kd.R_types HO598.out BK602.out (by decide)) (fun _ hk => hk.2) (.slice Ao11 t593.length co11)) (fun _ hk => hk.2) (.slice Ao13 t596.length co13)) (fun _ hk => hk.2) (.slice Ao14 t599.length co14)) (fun _ h_ => h_.1)))) hb); have n2_ := aM (Kd.R_below (Kd.R_up ((Kd.R_mono (Kd.R_far (p := ⟨gb602, 2, none⟩) (Kd.R_far (p := ⟨gb602, 1, none⟩) (Kd.R_far (p := ⟨gb602, 0, none⟩) (Kd.R_types HO601.out BK602.out (by decide)) (fun _ hk => hk.2) (.slice Ao11 t593.length co11)) (fun _ hk => hk.2) (.slice Ao13 t596.length co13)) (fun _ hk => hk.2) (.slice Ao14 t599.length co14)) (fun _ h_ => h_.1)))) hb); have n3_ := aM (Kd.R_lower (Kd.R_new' ho0 (Kd.R_lt (Kd.R_up ((Kd.R_mono (Kd.R_far (p := ⟨gb602, 2, none⟩) (Kd.R_far (p := ⟨gb602, 1, none⟩) (Kd.R_far (p := ⟨gb602, 0, none⟩) (Kd.R_types HO595.out BK602.out (by decide)) (fun _ hk => hk.2) (.slice Ao11 t593.length co11)) (fun _ hk => hk.2) (.slice Ao13 t596.length co13)) (fun _ hk => hk.2) (.slice Ao14 t599.length co14)) (fun _ h_ => h_.1)))))) (below_size (bU HB.out))); have n4_ := aM (blk_below (g := gb602) (o := .cells #[.slice Ao11 t593.length co11, .slice Ao13 t596.length co13, .slice Ao14 t599.length co14] 26 (0, 0)) (kP BK602.out) hb); have n5_ := aM (below_step (bU HB.out) hb); clear HO595; clear HO598; clear HO601; clear BK602; clear HB; have HO595 := n0_; have HO598 := n1_; have HO601 := n2_; have HO605 := n3_; have BK602 := n4_; have HB := n5_; clear n0_ n1_ n2_ n3_ n4_ n5_; (try clear hb); (try clear hb2); (try clear hk); (try clear hi); (try clear ho0); obtain ⟨hcz16_0, hcz16_1, hcz16_2, hfz16_0, hfz16_1, hfz16_2⟩ := cz3 BK602.out))
   go_loopg [39] k (fun kq v39 w' => ∃ (x39_1 : Int), v39 = .int .i64 x39_1 ∧ Aside0 (insolvencylaw8_PartyFixpoint.l0 kq (Int.tmod (wrap64 (a3)) (t593.length : Int)) t603 (t593.length : Int) x39_1 t593 t596 t599 = some r) ∧ Aside0 (kq ≤ k) ∧ Aside0 (Kd.R (Kd.int .i64) 3 w' w.heap.size (fun k_ => some k_ ≠ ((.slice Ao11 t593.length co11) : Value).ownBlock) v604 t603) ∧ Aside0 (Kd.R (Kd.int .i64) 3 w' w.heap.size (fun k_ => some k_ ≠ (v604 : Value).ownBlock) (.slice Ao11 t593.length co11) t593) ∧ Aside0 (Kd.R k36 36 w' w.heap.size (fun _ => True) (.slice Ao13 t596.length co13) t596) ∧ Aside0 (Kd.R k38 38 w' w.heap.size (fun _ => True) (.slice Ao14 t599.length co14) t599) ∧ Aside0 (w'.heap[gb602]? = some (.cells #[(.slice Ao11 t593.length co11), (.slice Ao13 t596.length co13), (.slice Ao14 t599.length co14)] 26 (0, 0))) ∧ Aside0 (Below w.heap.size w w'))
   case atStart => exact ⟨(0), (by first | rfl | (simp; done) | (simp [*]; done)), H', ⟨Nat.le_refl _⟩, ⟨Kd.R_up (Kd.R_mono HO605.out (fun _ hk => hk.2))⟩, ⟨Kd.R_up (Kd.R_mono HO595.out (fun _ hk => hk.2))⟩, ⟨Kd.R_up HO598.out⟩, ⟨Kd.R_up HO601.out⟩, ⟨kU BK602.out⟩, ⟨bU HB.out⟩⟩
   case round =>
    clear H'
    try clear c1
    try clear c2
    try clear p2
    try clear c5
    try clear c6
    try clear c6b0
    try clear c6b1
    try clear c6b2
    try clear p6
    try clear c8
    try clear c8b0
    try clear c8b1
    try clear c14
    try clear c15
    try clear hcz12_0 hcz12_1 hcz12_2
    try clear hcz16_0 hcz16_1 hcz16_2
    try clear hfz12_0 hfz12_1 hfz12_2
    try clear hfz16_0 hfz16_1 hfz16_2
    obtain ⟨x39_1, rfl, HA, HK1, HO_11, HO_603000, HO_603001, HO_603002, BK602, HB⟩ := hrel
    cases gk with
    | zero => exact absurd HA.out (by simp [insolvencylaw8_PartyFixpoint.l0])
    | succ k1 =>
     have H := HA.out
     clear HA
     simp only [insolvencylaw8_PartyFixpoint.l0] at H
     by_cases c17 : x39_1 < (t593.length : Int)
     ·rw [if_pos c17] at H
      have c17b0 : decide (x39_1 < (t593.length : Int)) = true := decide_eq_true c17
      clear c17
      have H' := Aside0.mk H
      clear H
      obtain ⟨Ao18, co18, eo18⟩ := Kd.R_slice HO_11.out
      subst eo18
      go_wp2
      go_loopg [14, 44] k1 (fun kq v14 v44 w' => ∃ (x14_2 : Bool) (x44_2 : Int), v14 = .bool x14_2 ∧ v44 = .int .i64 x44_2 ∧ Aside0 (insolvencylaw8_PartyFixpoint.l1 kq (Int.tmod (wrap64 (a3)) (t593.length : Int)) t603 x39_1 x14_2 (t593.length : Int) x39_1 t603 (t603.length : Int) x44_2 t593 t596 t599 = some r) ∧ Aside0 (kq ≤ k1) ∧ Aside0 (Kd.R (Kd.int .i64) 3 w' w.heap.size (fun k_ => some k_ ≠ ((.slice Ao11 t593.length co11) : Value).ownBlock) (.slice Ao18 t603.length co18) t603) ∧ Aside0 (Kd.R (Kd.int .i64) 3 w' w.heap.size (fun k_ => some k_ ≠ ((.slice Ao11 t593.length co11) : Value).ownBlock) (.slice Ao18 t603.length co18) t603) ∧ Aside0 (Kd.R (Kd.int .i64) 3 w' w.heap.size (fun k_ => some k_ ≠ ((.slice Ao18 t603.length co18) : Value).ownBlock ∧ some k_ ≠ ((.slice Ao18 t603.length co18) : Value).ownBlock) (.slice Ao11 t593.length co11) t593) ∧ Aside0 (Kd.R k36 36 w' w.heap.size (fun _ => True) (.slice Ao13 t596.length co13) t596) ∧ Aside0 (Kd.R k38 38 w' w.heap.size (fun _ => True) (.slice Ao14 t599.length co14) t599) ∧ Aside0 (w'.heap[gb602]? = some (.cells #[(.slice Ao11 t593.length co11), (.slice Ao13 t596.length co13), (.slice Ao14 t599.length co14)] 26 (0, 0))) ∧ Aside0 (Below w.heap.size w w'))
      case atStart => exact ⟨(false), (0), (by first | rfl | (simp; done) | (simp [*]; done)), (by first | rfl | (simp; done) | (simp [*]; done)), H', ⟨Nat.le_refl _⟩, ⟨Kd.R_up HO_11.out⟩, ⟨Kd.R_up HO_11.out⟩, ⟨Kd.R_up (Kd.R_mono HO_603000.out (fun _ hk => ⟨hk, hk⟩))⟩, ⟨Kd.R_up HO_603001.out⟩, ⟨Kd.R_up HO_603002.out⟩, ⟨kU BK602.out⟩, ⟨bU HB.out⟩⟩
      case round =>
       clear H'
       try clear c1
       try clear c2
       try clear p2
       try clear c5
       try clear c6
       try clear c6b0
       try clear c6b1
       try clear c6b2
       try clear p6
       try clear c8
       try clear c8b0
       try clear c8b1
       try clear c14
       try clear c15
       try clear c17
       try clear c17b0
       try clear hcz12_0 hcz12_1 hcz12_2
       try clear hcz16_0 hcz16_1 hcz16_2
       try clear hfz12_0 hfz12_1 hfz12_2
       try clear hfz16_0 hfz16_1 hfz16_2
       try clear p2
       try clear p6
       obtain ⟨x14_2, x44_2, rfl, rfl, HA, HK2, HO_11, HO_42, HO_603000, HO_603001, HO_603002, BK602, HB⟩ := hrel
       cases gk with
       | zero => exact absurd HA.out (by simp [insolvencylaw8_PartyFixpoint.l1])
       | succ k2 =>
        have H := HA.out
        clear HA
        simp only [insolvencylaw8_PartyFixpoint.l1] at H
        by_cases c19 : x44_2 < (t603.length : Int)
        ·rw [if_pos c19] at H
         have c19b0 : decide (x44_2 < (t603.length : Int)) = true := decide_eq_true c19
         clear c19
         by_cases c20 : 0 ≤ x44_2
         ·rw [if_pos c20] at H
          have c20b0 : decide (0 ≤ x44_2) = true := decide_eq_true c20
          clear c20
          by_cases c21 : x44_2 < (t603.length : Int)
          ·rw [if_pos c21] at H
           have c21b0 : decide (x44_2 < (t603.length : Int)) = true := decide_eq_true c21
           clear c21
           by_cases c22 : x14_2 = true
           ·subst c22
            have H1 : (insolvencylaw8_PartyFixpoint.l1 k2 (Int.tmod (wrap64 (a3)) (t593.length : Int)) t603 x39_1 true (t593.length : Int) x39_1 t603 (t603.length : Int) (wrap64 (x44_2 + 1)) t593 t596 t599) = some r := by rw [if_pos rfl] at H; exact H
            clear H
            have H := H1
            clear H1
            have H' := Aside0.mk H
            clear H
            have p608 : 0 ≤ (x44_2 : Int) := oD
            have q608 : x44_2 < (t603.length : Int) := oD
            obtain ⟨ad608, e608, hx608_0⟩ := Kd.at_int (Kd.R_reads' HO_42.out).2.2 x44_2 p608 q608
            cases e608
            replace p608 := eq_true p608
            replace q608 := eq_true q608
            go_wp2
            go_roundg k2
            case measure => have := HK1.out; have := HK2.out; omega
            case rel => exact ⟨(true), (wrap64 (x44_2 + 1)), (by first | rfl | (simp; done) | (simp [*]; done)), (by first | rfl | (simp; done) | (simp [*]; done)), H', ⟨by have := HK1.out; have := HK2.out; omega⟩, ⟨Kd.R_up HO_11.out⟩, ⟨Kd.R_up HO_42.out⟩, ⟨Kd.R_up HO_603000.out⟩, ⟨Kd.R_up HO_603001.out⟩, ⟨Kd.R_up HO_603002.out⟩, ⟨kU BK602.out⟩, ⟨bU HB.out⟩⟩
           ·replace c22 := Bool.eq_false_iff.mpr c22
            subst c22
            have H1 : (insolvencylaw8_PartyFixpoint.l1 k2 (Int.tmod (wrap64 (a3)) (t593.length : Int)) t603 x39_1 ((rd t603 x44_2) == x39_1) (t593.length : Int) x39_1 t603 (t603.length : Int) (wrap64 (x44_2 + 1)) t593 t596 t599) = some r := by rw [if_neg (show ¬ (false = true) by decide)] at H; exact H
            clear H
            have H := H1
            clear H1
            have H' := Aside0.mk H
            clear H
            have p608 : 0 ≤ (x44_2 : Int) := oD
            have q608 : x44_2 < (t603.length : Int) := oD
            obtain ⟨ad608, e608, hx608_0⟩ := Kd.at_int (Kd.R_reads' HO_42.out).2.2 x44_2 p608 q608
            cases e608
            replace p608 := eq_true p608
            replace q608 := eq_true q608
            go_wp2
            go_roundg k2
            case measure => have := HK1.out; have := HK2.out; omega
            case rel => exact ⟨(((rd t603 x44_2) == x39_1)), (wrap64 (x44_2 + 1)), (by first | rfl | (simp; done) | (simp [*]; done)), (by first | rfl | (simp; done) | (simp [*]; done)), H', ⟨by have := HK1.out; have := HK2.out; omega⟩, ⟨Kd.R_up HO_11.out⟩, ⟨Kd.R_up HO_42.out⟩, ⟨Kd.R_up HO_603000.out⟩, ⟨Kd.R_up HO_603001.out⟩, ⟨Kd.R_up HO_603002.out⟩, ⟨kU BK602.out⟩, ⟨bU HB.out⟩⟩
          ·rw [if_neg c21] at H
           exact absurd H (by simp)
         ·rw [if_neg c20] at H
          exact absurd H (by simp)
        ·rw [if_neg c19] at H
         have c19b0 : decide (x44_2 < (t603.length : Int)) = false := decide_eq_false c19
         clear c19
         replace H := bE H
         obtain ⟨⟨t609, t610, t611⟩, A230, H⟩ := H
         replace H : ((insolvencylaw0_Ratio.f k2 1 2).bind fun bt612 => ((rational_Compare.f k2 t609 t610 t611 bt612.1 bt612.2.1 bt612.2.2).bind fun t615 => (if x39_1 = (Int.tmod (wrap64 (a3)) (t593.length : Int)) then (if x14_2 = true then (some false) else (insolvencylaw8_PartyFixpoint.l0 k2 (Int.tmod (wrap64 (a3)) (t593.length : Int)) t603 (t593.length : Int) (wrap64 (x39_1 + 1)) t593 t596 t599)) else (if (x14_2 != (decide (t615 > 0))) = true then (some false) else (insolvencylaw8_PartyFixpoint.l0 k2 (Int.tmod (wrap64 (a3)) (t593.length : Int)) t603 (t593.length : Int) (wrap64 (x39_1 + 1)) t593 t596 t599))))) = some r := H
         have A23 := Aside0.mk A230
         clear A230
         replace H := bE H
         obtain ⟨⟨t612, t613, t614⟩, A240, H⟩ := H
         replace H : ((rational_Compare.f k2 t609 t610 t611 t612 t613 t614).bind fun t615 => (if x39_1 = (Int.tmod (wrap64 (a3)) (t593.length : Int)) then (if x14_2 = true then (some false) else (insolvencylaw8_PartyFixpoint.l0 k2 (Int.tmod (wrap64 (a3)) (t593.length : Int)) t603 (t593.length : Int) (wrap64 (x39_1 + 1)) t593 t596 t599)) else (if (x14_2 != (decide (t615 > 0))) = true then (some false) else (insolvencylaw8_PartyFixpoint.l0 k2 (Int.tmod (wrap64 (a3)) (t593.length : Int)) t603 (t593.length : Int) (wrap64 (x39_1 + 1)) t593 t596 t599)))) = some r := H
         have A24 := Aside0.mk A240
         clear A240
         replace H := bE H
         obtain ⟨t615, A250, H⟩ := H
         replace H : (if x39_1 = (Int.tmod (wrap64 (a3)) (t593.length : Int)) then (if x14_2 = true then (some false) else (insolvencylaw8_PartyFixpoint.l0 k2 (Int.tmod (wrap64 (a3)) (t593.length : Int)) t603 (t593.length : Int) (wrap64 (x39_1 + 1)) t593 t596 t599)) else (if (x14_2 != (decide (t615 > 0))) = true then (some false) else (insolvencylaw8_PartyFixpoint.l0 k2 (Int.tmod (wrap64 (a3)) (t593.length : Int)) t603 (t593.length : Int) (wrap64 (x39_1 + 1)) t593 t596 t599))) = some r := H
         have A25 := Aside0.mk A250
         clear A250
         by_cases c26 : x39_1 = (Int.tmod (wrap64 (a3)) (t593.length : Int))
         ·rw [if_pos c26] at H
          have c26b0 : (x39_1 == (Int.tmod (wrap64 (a3)) (t593.length : Int))) = true := beq_iff_eq.mpr c26
          have c26b1 : (x39_1 != (Int.tmod (wrap64 (a3)) (t593.length : Int))) = false := bne_eq_false_iff_eq.mpr c26
          clear c26
          by_cases c27 : x14_2 = true
          ·subst c27
           have H1 : (some false) = some r := by rw [if_pos rfl] at H; exact H
           clear H
           have H := H1
           clear H1
           obtain rfl := Option.some.inj H
           obtain ⟨hcz28_0, hcz28_1, hcz28_2, hfz28_0, hfz28_1, hfz28_2⟩ := cz3 BK602.out
           go_wp2_with (first | ((with_reducible refine gate_callee (f := 17) rfl ?_); refine goesLq (some 59) rfl rfl Tryd.func17 #[.agg #[.slice Ao11 t593.length co11, .slice Ao13 t596.length co13, .slice Ao14 t599.length co14], .slice Ao18 t603.length co18, .int .i64 (Int.tmod (wrap64 (a3)) (t593.length : Int)), .int .i64 x39_1] rfl ?_; (with_reducible refine (insolvencylaw8_votes.calls k2 _ _ t593 _ _ t596 _ _ t599 _ _ t603 (Int.tmod (wrap64 (a3)) (t593.length : Int)) x39_1 t609 t610 t611 _ ?side1 ?side2 ?side3 ?side4 ?side5 ?side6 ?side7 ?side8 A23.out).mono ?_); (case side1 => exact Kd.C_up (Kd.R_reads' HO_603000.out).2.2); (case side2 => exact (Kd.R_reads' HO_603000.out).2.1); (case side3 => exact Kd.C_up (Kd.R_reads' HO_603001.out).2.2); (case side4 => exact (Kd.R_reads' HO_603001.out).2.1); (case side5 => exact Kd.C_up (Kd.R_reads' HO_603002.out).2.2); (case side6 => exact (Kd.R_reads' HO_603002.out).2.1); (case side7 => exact Kd.C_up (Kd.R_reads' HO_11.out).2.2); (case side8 => exact (Kd.R_reads' HO_11.out).2.1); rintro e w29 ⟨rfl, hb⟩; refine ⟨_, rfl, ?_⟩; have n0_ := aM (Kd.R_below (Kd.R_up HO_11.out) hb); have n1_ := aM (Kd.R_below (Kd.R_up HO_42.out) hb); have n2_ := aM (Kd.R_below (Kd.R_up HO_603000.out) hb); have n3_ := aM (Kd.R_below (Kd.R_up HO_603001.out) hb); have n4_ := aM (Kd.R_below (Kd.R_up HO_603002.out) hb); have n5_ := aM (blk_below (kU BK602.out) hb); have n6_ := aM (below_step (bU HB.out) hb); clear HO_11; clear HO_42; clear HO_603000; clear HO_603001; clear HO_603002; clear BK602; clear HB; have HO_11 := n0_; have HO_42 := n1_; have HO_603000 := n2_; have HO_603001 := n3_; have HO_603002 := n4_; have BK602 := n5_; have HB := n6_; clear n0_ n1_ n2_ n3_ n4_ n5_ n6_; (try clear hb); (try clear hb2); (try clear hk); (try clear hi)) | ((with_reducible refine gate_callee (f := 13) rfl ?_); refine goesLq (some 60) rfl rfl Tryd.func13 #[.int .i64 1, .int .i64 2] rfl ?_; (with_reducible refine (insolvencylaw0_Ratio.calls k2 1 2 t612 t613 t614 _ A24.out).mono ?_); rintro e w30 ⟨rfl, hb⟩; refine ⟨_, rfl, ?_⟩; have n0_ := aM (Kd.R_below (Kd.R_up HO_11.out) hb); have n1_ := aM (Kd.R_below (Kd.R_up HO_42.out) hb); have n2_ := aM (Kd.R_below (Kd.R_up HO_603000.out) hb); have n3_ := aM (Kd.R_below (Kd.R_up HO_603001.out) hb); have n4_ := aM (Kd.R_below (Kd.R_up HO_603002.out) hb); have n5_ := aM (blk_below (kU BK602.out) hb); have n6_ := aM (below_step (bU HB.out) hb); clear HO_11; clear HO_42; clear HO_603000; clear HO_603001; clear HO_603002; clear BK602; clear HB; have HO_11 := n0_; have HO_42 := n1_; have HO_603000 := n2_; have HO_603001 := n3_; have HO_603002 := n4_; have BK602 := n5_; have HB := n6_; clear n0_ n1_ n2_ n3_ n4_ n5_ n6_; (try clear hb); (try clear hb2); (try clear hk); (try clear hi)) | ((with_reducible refine gate_callee (f := 16) rfl ?_); refine goesLq (some 61) rfl rfl Tryd.func16 #[.agg #[.bool t609, .string t610, .string t611], .agg #[.bool t612, .string t613, .string t614]] rfl ?_; (with_reducible refine (rational_Compare.calls k2 t609 t610 t611 t612 t613 t614 t615 _ A25.out).mono ?_); rintro e w31 ⟨rfl, hb⟩; refine ⟨_, rfl, ?_⟩; have n0_ := aM (Kd.R_below (Kd.R_up HO_11.out) hb); have n1_ := aM (Kd.R_below (Kd.R_up HO_42.out) hb); have n2_ := aM (Kd.R_below (Kd.R_up HO_603000.out) hb); have n3_ := aM (Kd.R_below (Kd.R_up HO_603001.out) hb); have n4_ := aM (Kd.R_below (Kd.R_up HO_603002.out) hb); have n5_ := aM (blk_below (kU BK602.out) hb); have n6_ := aM (below_step (bU HB.out) hb); clear HO_11; clear HO_42; clear HO_603000; clear HO_603001; clear HO_603002; clear BK602; clear HB; have HO_11 := n0_; have HO_42 := n1_; have HO_603000 := n2_; have HO_603001 := n3_; have HO_603002 := n4_; have BK602 := n5_; have HB := n6_; clear n0_ n1_ n2_ n3_ n4_ n5_ n6_; (try clear hb); (try clear hb2); (try clear hk); (try clear hi)))
           go_ret
           exact ⟨by first | rfl | (simp [errW_none, errW_some] <;> rfl) | (simp [*, errW_none, errW_some] <;> rfl), bU HB.out⟩
          ·replace c27 := Bool.eq_false_iff.mpr c27
           subst c27
           have H1 : (insolvencylaw8_PartyFixpoint.l0 k2 (Int.tmod (wrap64 (a3)) (t593.length : Int)) t603 (t593.length : Int) (wrap64 (x39_1 + 1)) t593 t596 t599) = some r := by rw [if_neg (show ¬ (false = true) by decide)] at H; exact H
           clear H
           have H := H1
           clear H1
           have H' := Aside0.mk H
           clear H
           obtain ⟨hcz32_0, hcz32_1, hcz32_2, hfz32_0, hfz32_1, hfz32_2⟩ := cz3 BK602.out
           go_wp2_with (first | ((with_reducible refine gate_callee (f := 17) rfl ?_); refine goesLq (some 59) rfl rfl Tryd.func17 #[.agg #[.slice Ao11 t593.length co11, .slice Ao13 t596.length co13, .slice Ao14 t599.length co14], .slice Ao18 t603.length co18, .int .i64 (Int.tmod (wrap64 (a3)) (t593.length : Int)), .int .i64 x39_1] rfl ?_; (with_reducible refine (insolvencylaw8_votes.calls k2 _ _ t593 _ _ t596 _ _ t599 _ _ t603 (Int.tmod (wrap64 (a3)) (t593.length : Int)) x39_1 t609 t610 t611 _ ?side1 ?side2 ?side3 ?side4 ?side5 ?side6 ?side7 ?side8 A23.out).mono ?_); (case side1 => exact Kd.C_up (Kd.R_reads' HO_603000.out).2.2); (case side2 => exact (Kd.R_reads' HO_603000.out).2.1); (case side3 => exact Kd.C_up (Kd.R_reads' HO_603001.out).2.2); (case side4 => exact (Kd.R_reads' HO_603001.out).2.1); (case side5 => exact Kd.C_up (Kd.R_reads' HO_603002.out).2.2); (case side6 => exact (Kd.R_reads' HO_603002.out).2.1); (case side7 => exact Kd.C_up (Kd.R_reads' HO_11.out).2.2); (case side8 => exact (Kd.R_reads' HO_11.out).2.1); rintro e w33 ⟨rfl, hb⟩; refine ⟨_, rfl, ?_⟩; have n0_ := aM (Kd.R_below (Kd.R_up HO_11.out) hb); have n1_ := aM (Kd.R_below (Kd.R_up HO_42.out) hb); have n2_ := aM (Kd.R_below (Kd.R_up HO_603000.out) hb); have n3_ := aM (Kd.R_below (Kd.R_up HO_603001.out) hb); have n4_ := aM (Kd.R_below (Kd.R_up HO_603002.out) hb); have n5_ := aM (blk_below (kU BK602.out) hb); have n6_ := aM (below_step (bU HB.out) hb); clear HO_11; clear HO_42; clear HO_603000; clear HO_603001; clear HO_603002; clear BK602; clear HB; have HO_11 := n0_; have HO_42 := n1_; have HO_603000 := n2_; have HO_603001 := n3_; have HO_603002 := n4_; have BK602 := n5_; have HB := n6_; clear n0_ n1_ n2_ n3_ n4_ n5_ n6_; (try clear hb); (try clear hb2); (try clear hk); (try clear hi)) | ((with_reducible refine gate_callee (f := 13) rfl ?_); refine goesLq (some 60) rfl rfl Tryd.func13 #[.int .i64 1, .int .i64 2] rfl ?_; (with_reducible refine (insolvencylaw0_Ratio.calls k2 1 2 t612 t613 t614 _ A24.out).mono ?_); rintro e w34 ⟨rfl, hb⟩; refine ⟨_, rfl, ?_⟩; have n0_ := aM (Kd.R_below (Kd.R_up HO_11.out) hb); have n1_ := aM (Kd.R_below (Kd.R_up HO_42.out) hb); have n2_ := aM (Kd.R_below (Kd.R_up HO_603000.out) hb); have n3_ := aM (Kd.R_below (Kd.R_up HO_603001.out) hb); have n4_ := aM (Kd.R_below (Kd.R_up HO_603002.out) hb); have n5_ := aM (blk_below (kU BK602.out) hb); have n6_ := aM (below_step (bU HB.out) hb); clear HO_11; clear HO_42; clear HO_603000; clear HO_603001; clear HO_603002; clear BK602; clear HB; have HO_11 := n0_; have HO_42 := n1_; have HO_603000 := n2_; have HO_603001 := n3_; have HO_603002 := n4_; have BK602 := n5_; have HB := n6_; clear n0_ n1_ n2_ n3_ n4_ n5_ n6_; (try clear hb); (try clear hb2); (try clear hk); (try clear hi)) | ((with_reducible refine gate_callee (f := 16) rfl ?_); refine goesLq (some 61) rfl rfl Tryd.func16 #[.agg #[.bool t609, .string t610, .string t611], .agg #[.bool t612, .string t613, .string t614]] rfl ?_; (with_reducible refine (rational_Compare.calls k2 t609 t610 t611 t612 t613 t614 t615 _ A25.out).mono ?_); rintro e w35 ⟨rfl, hb⟩; refine ⟨_, rfl, ?_⟩; have n0_ := aM (Kd.R_below (Kd.R_up HO_11.out) hb); have n1_ := aM (Kd.R_below (Kd.R_up HO_42.out) hb); have n2_ := aM (Kd.R_below (Kd.R_up HO_603000.out) hb); have n3_ := aM (Kd.R_below (Kd.R_up HO_603001.out) hb); have n4_ := aM (Kd.R_below (Kd.R_up HO_603002.out) hb); have n5_ := aM (blk_below (kU BK602.out) hb); have n6_ := aM (below_step (bU HB.out) hb); clear HO_11; clear HO_42; clear HO_603000; clear HO_603001; clear HO_603002; clear BK602; clear HB; have HO_11 := n0_; have HO_42 := n1_; have HO_603000 := n2_; have HO_603001 := n3_; have HO_603002 := n4_; have BK602 := n5_; have HB := n6_; clear n0_ n1_ n2_ n3_ n4_ n5_ n6_; (try clear hb); (try clear hb2); (try clear hk); (try clear hi)))
           go_roundg k2
           case measure => have := HK1.out; have := HK2.out; omega
           case rel => exact ⟨(wrap64 (x39_1 + 1)), (by first | rfl | (simp; done) | (simp [*]; done)), H', ⟨by have := HK1.out; have := HK2.out; omega⟩, ⟨Kd.R_up HO_11.out⟩, ⟨Kd.R_up (Kd.R_mono HO_603000.out (fun _ hk => hk.1))⟩, ⟨Kd.R_up HO_603001.out⟩, ⟨Kd.R_up HO_603002.out⟩, ⟨kU BK602.out⟩, ⟨bU HB.out⟩⟩
         ·rw [if_neg c26] at H
          have c26b0 : (x39_1 == (Int.tmod (wrap64 (a3)) (t593.length : Int))) = false := beq_eq_false_iff_ne.mpr c26
          have c26b1 : (x39_1 != (Int.tmod (wrap64 (a3)) (t593.length : Int))) = true := bne_iff_ne.mpr c26
          by_cases c36 : (x14_2 != (decide (t615 > 0))) = true
          ·rw [if_pos c36] at H
           have c36b0 : (x14_2 != (decide (t615 > 0))) = true := c36
           (try (have c36b1 : decide (x14_2 = (decide (t615 > 0))) = false := by simpa using c36))
           (try (have c36b2 : (x14_2 == (decide (t615 > 0))) = false := by simpa using c36))
           (try (have c36b3 : ¬ (x14_2 = (decide (t615 > 0))) := by simpa using c36))
           clear c36
           obtain rfl := Option.some.inj H
           obtain ⟨hcz37_0, hcz37_1, hcz37_2, hfz37_0, hfz37_1, hfz37_2⟩ := cz3 BK602.out
           go_wp2_with (first | ((with_reducible refine gate_callee (f := 17) rfl ?_); refine goesLq (some 59) rfl rfl Tryd.func17 #[.agg #[.slice Ao11 t593.length co11, .slice Ao13 t596.length co13, .slice Ao14 t599.length co14], .slice Ao18 t603.length co18, .int .i64 (Int.tmod (wrap64 (a3)) (t593.length : Int)), .int .i64 x39_1] rfl ?_; (with_reducible refine (insolvencylaw8_votes.calls k2 _ _ t593 _ _ t596 _ _ t599 _ _ t603 (Int.tmod (wrap64 (a3)) (t593.length : Int)) x39_1 t609 t610 t611 _ ?side1 ?side2 ?side3 ?side4 ?side5 ?side6 ?side7 ?side8 A23.out).mono ?_); (case side1 => exact Kd.C_up (Kd.R_reads' HO_603000.out).2.2); (case side2 => exact (Kd.R_reads' HO_603000.out).2.1); (case side3 => exact Kd.C_up (Kd.R_reads' HO_603001.out).2.2); (case side4 => exact (Kd.R_reads' HO_603001.out).2.1); (case side5 => exact Kd.C_up (Kd.R_reads' HO_603002.out).2.2); (case side6 => exact (Kd.R_reads' HO_603002.out).2.1); (case side7 => exact Kd.C_up (Kd.R_reads' HO_11.out).2.2); (case side8 => exact (Kd.R_reads' HO_11.out).2.1); rintro e w38 ⟨rfl, hb⟩; refine ⟨_, rfl, ?_⟩; have n0_ := aM (Kd.R_below (Kd.R_up HO_11.out) hb); have n1_ := aM (Kd.R_below (Kd.R_up HO_42.out) hb); have n2_ := aM (Kd.R_below (Kd.R_up HO_603000.out) hb); have n3_ := aM (Kd.R_below (Kd.R_up HO_603001.out) hb); have n4_ := aM (Kd.R_below (Kd.R_up HO_603002.out) hb); have n5_ := aM (blk_below (kU BK602.out) hb); have n6_ := aM (below_step (bU HB.out) hb); clear HO_11; clear HO_42; clear HO_603000; clear HO_603001; clear HO_603002; clear BK602; clear HB; have HO_11 := n0_; have HO_42 := n1_; have HO_603000 := n2_; have HO_603001 := n3_; have HO_603002 := n4_; have BK602 := n5_; have HB := n6_; clear n0_ n1_ n2_ n3_ n4_ n5_ n6_; (try clear hb); (try clear hb2); (try clear hk); (try clear hi)) | ((with_reducible refine gate_callee (f := 13) rfl ?_); refine goesLq (some 60) rfl rfl Tryd.func13 #[.int .i64 1, .int .i64 2] rfl ?_; (with_reducible refine (insolvencylaw0_Ratio.calls k2 1 2 t612 t613 t614 _ A24.out).mono ?_); rintro e w39 ⟨rfl, hb⟩; refine ⟨_, rfl, ?_⟩; have n0_ := aM (Kd.R_below (Kd.R_up HO_11.out) hb); have n1_ := aM (Kd.R_below (Kd.R_up HO_42.out) hb); have n2_ := aM (Kd.R_below (Kd.R_up HO_603000.out) hb); have n3_ := aM (Kd.R_below (Kd.R_up HO_603001.out) hb); have n4_ := aM (Kd.R_below (Kd.R_up HO_603002.out) hb); have n5_ := aM (blk_below (kU BK602.out) hb); have n6_ := aM (below_step (bU HB.out) hb); clear HO_11; clear HO_42; clear HO_603000; clear HO_603001; clear HO_603002; clear BK602; clear HB; have HO_11 := n0_; have HO_42 := n1_; have HO_603000 := n2_; have HO_603001 := n3_; have HO_603002 := n4_; have BK602 := n5_; have HB := n6_; clear n0_ n1_ n2_ n3_ n4_ n5_ n6_; (try clear hb); (try clear hb2); (try clear hk); (try clear hi)) | ((with_reducible refine gate_callee (f := 16) rfl ?_); refine goesLq (some 61) rfl rfl Tryd.func16 #[.agg #[.bool t609, .string t610, .string t611], .agg #[.bool t612, .string t613, .string t614]] rfl ?_; (with_reducible refine (rational_Compare.calls k2 t609 t610 t611 t612 t613 t614 t615 _ A25.out).mono ?_); rintro e w40 ⟨rfl, hb⟩; refine ⟨_, rfl, ?_⟩; have n0_ := aM (Kd.R_below (Kd.R_up HO_11.out) hb); have n1_ := aM (Kd.R_below (Kd.R_up HO_42.out) hb); have n2_ := aM (Kd.R_below (Kd.R_up HO_603000.out) hb); have n3_ := aM (Kd.R_below (Kd.R_up HO_603001.out) hb); have n4_ := aM (Kd.R_below (Kd.R_up HO_603002.out) hb); have n5_ := aM (blk_below (kU BK602.out) hb); have n6_ := aM (below_step (bU HB.out) hb); clear HO_11; clear HO_42; clear HO_603000; clear HO_603001; clear HO_603002; clear BK602; clear HB; have HO_11 := n0_; have HO_42 := n1_; have HO_603000 := n2_; have HO_603001 := n3_; have HO_603002 := n4_; have BK602 := n5_; have HB := n6_; clear n0_ n1_ n2_ n3_ n4_ n5_ n6_; (try clear hb); (try clear hb2); (try clear hk); (try clear hi)))
           go_ret
           exact ⟨by first | rfl | (simp [errW_none, errW_some] <;> rfl) | (simp [*, errW_none, errW_some] <;> rfl), bU HB.out⟩
          ·rw [if_neg c36] at H
           have c36b0 : (x14_2 != (decide (t615 > 0))) = false := by simpa using c36
           (try (have c36b1 : decide (x14_2 = (decide (t615 > 0))) = true := by simpa using c36))
           (try (have c36b2 : (x14_2 == (decide (t615 > 0))) = true := by simpa using c36))
           clear c36
           have H' := Aside0.mk H
           clear H
           obtain ⟨hcz41_0, hcz41_1, hcz41_2, hfz41_0, hfz41_1, hfz41_2⟩ := cz3 BK602.out
           go_wp2_with (first | ((with_reducible refine gate_callee (f := 17) rfl ?_); refine goesLq (some 59) rfl rfl Tryd.func17 #[.agg #[.slice Ao11 t593.length co11, .slice Ao13 t596.length co13, .slice Ao14 t599.length co14], .slice Ao18 t603.length co18, .int .i64 (Int.tmod (wrap64 (a3)) (t593.length : Int)), .int .i64 x39_1] rfl ?_; (with_reducible refine (insolvencylaw8_votes.calls k2 _ _ t593 _ _ t596 _ _ t599 _ _ t603 (Int.tmod (wrap64 (a3)) (t593.length : Int)) x39_1 t609 t610 t611 _ ?side1 ?side2 ?side3 ?side4 ?side5 ?side6 ?side7 ?side8 A23.out).mono ?_); (case side1 => exact Kd.C_up (Kd.R_reads' HO_603000.out).2.2); (case side2 => exact (Kd.R_reads' HO_603000.out).2.1); (case side3 => exact Kd.C_up (Kd.R_reads' HO_603001.out).2.2); (case side4 => exact (Kd.R_reads' HO_603001.out).2.1); (case side5 => exact Kd.C_up (Kd.R_reads' HO_603002.out).2.2); (case side6 => exact (Kd.R_reads' HO_603002.out).2.1); (case side7 => exact Kd.C_up (Kd.R_reads' HO_11.out).2.2); (case side8 => exact (Kd.R_reads' HO_11.out).2.1); rintro e w42 ⟨rfl, hb⟩; refine ⟨_, rfl, ?_⟩; have n0_ := aM (Kd.R_below (Kd.R_up HO_11.out) hb); have n1_ := aM (Kd.R_below (Kd.R_up HO_42.out) hb); have n2_ := aM (Kd.R_below (Kd.R_up HO_603000.out) hb); have n3_ := aM (Kd.R_below (Kd.R_up HO_603001.out) hb); have n4_ := aM (Kd.R_below (Kd.R_up HO_603002.out) hb); have n5_ := aM (blk_below (kU BK602.out) hb); have n6_ := aM (below_step (bU HB.out) hb); clear HO_11; clear HO_42; clear HO_603000; clear HO_603001; clear HO_603002; clear BK602; clear HB; have HO_11 := n0_; have HO_42 := n1_; have HO_603000 := n2_; have HO_603001 := n3_; have HO_603002 := n4_; have BK602 := n5_; have HB := n6_; clear n0_ n1_ n2_ n3_ n4_ n5_ n6_; (try clear hb); (try clear hb2); (try clear hk); (try clear hi)) | ((with_reducible refine gate_callee (f := 13) rfl ?_); refine goesLq (some 60) rfl rfl Tryd.func13 #[.int .i64 1, .int .i64 2] rfl ?_; (with_reducible refine (insolvencylaw0_Ratio.calls k2 1 2 t612 t613 t614 _ A24.out).mono ?_); rintro e w43 ⟨rfl, hb⟩; refine ⟨_, rfl, ?_⟩; have n0_ := aM (Kd.R_below (Kd.R_up HO_11.out) hb); have n1_ := aM (Kd.R_below (Kd.R_up HO_42.out) hb); have n2_ := aM (Kd.R_below (Kd.R_up HO_603000.out) hb); have n3_ := aM (Kd.R_below (Kd.R_up HO_603001.out) hb); have n4_ := aM (Kd.R_below (Kd.R_up HO_603002.out) hb); have n5_ := aM (blk_below (kU BK602.out) hb); have n6_ := aM (below_step (bU HB.out) hb); clear HO_11; clear HO_42; clear HO_603000; clear HO_603001; clear HO_603002; clear BK602; clear HB; have HO_11 := n0_; have HO_42 := n1_; have HO_603000 := n2_; have HO_603001 := n3_; have HO_603002 := n4_; have BK602 := n5_; have HB := n6_; clear n0_ n1_ n2_ n3_ n4_ n5_ n6_; (try clear hb); (try clear hb2); (try clear hk); (try clear hi)) | ((with_reducible refine gate_callee (f := 16) rfl ?_); refine goesLq (some 61) rfl rfl Tryd.func16 #[.agg #[.bool t609, .string t610, .string t611], .agg #[.bool t612, .string t613, .string t614]] rfl ?_; (with_reducible refine (rational_Compare.calls k2 t609 t610 t611 t612 t613 t614 t615 _ A25.out).mono ?_); rintro e w44 ⟨rfl, hb⟩; refine ⟨_, rfl, ?_⟩; have n0_ := aM (Kd.R_below (Kd.R_up HO_11.out) hb); have n1_ := aM (Kd.R_below (Kd.R_up HO_42.out) hb); have n2_ := aM (Kd.R_below (Kd.R_up HO_603000.out) hb); have n3_ := aM (Kd.R_below (Kd.R_up HO_603001.out) hb); have n4_ := aM (Kd.R_below (Kd.R_up HO_603002.out) hb); have n5_ := aM (blk_below (kU BK602.out) hb); have n6_ := aM (below_step (bU HB.out) hb); clear HO_11; clear HO_42; clear HO_603000; clear HO_603001; clear HO_603002; clear BK602; clear HB; have HO_11 := n0_; have HO_42 := n1_; have HO_603000 := n2_; have HO_603001 := n3_; have HO_603002 := n4_; have BK602 := n5_; have HB := n6_; clear n0_ n1_ n2_ n3_ n4_ n5_ n6_; (try clear hb); (try clear hb2); (try clear hk); (try clear hi)))
           go_roundg k2
           case measure => have := HK1.out; have := HK2.out; omega
           case rel => exact ⟨(wrap64 (x39_1 + 1)), (by first | rfl | (simp; done) | (simp [*]; done)), H', ⟨by have := HK1.out; have := HK2.out; omega⟩, ⟨Kd.R_up HO_11.out⟩, ⟨Kd.R_up (Kd.R_mono HO_603000.out (fun _ hk => hk.1))⟩, ⟨Kd.R_up HO_603001.out⟩, ⟨Kd.R_up HO_603002.out⟩, ⟨kU BK602.out⟩, ⟨bU HB.out⟩⟩
     ·rw [if_neg c17] at H
      have c17b0 : decide (x39_1 < (t593.length : Int)) = false := decide_eq_false c17
      clear c17
      replace H := bE H
      obtain ⟨t607, A450, H⟩ := H
      replace H : (some t607) = some r := H
      have A45 := Aside0.mk A450
      clear A450
      obtain rfl := Option.some.inj H
      go_wp2_with (first | ((with_reducible refine gate_callee (f := 10) rfl ?_); refine goesLq (some 80) rfl rfl Tryd.func10 #[] rfl ?_; (with_reducible refine (insolvencylaw8_awake.calls k1  t607 _ A45.out).mono ?_); rintro e w46 ⟨rfl, hb⟩; refine ⟨_, rfl, ?_⟩; have n0_ := aM (Kd.R_below (Kd.R_up HO_11.out) hb); have n1_ := aM (Kd.R_below (Kd.R_up HO_603000.out) hb); have n2_ := aM (Kd.R_below (Kd.R_up HO_603001.out) hb); have n3_ := aM (Kd.R_below (Kd.R_up HO_603002.out) hb); have n4_ := aM (blk_below (kU BK602.out) hb); have n5_ := aM (below_step (bU HB.out) hb); clear HO_11; clear HO_603000; clear HO_603001; clear HO_603002; clear BK602; clear HB; have HO_11 := n0_; have HO_603000 := n1_; have HO_603001 := n2_; have HO_603002 := n3_; have BK602 := n4_; have HB := n5_; clear n0_ n1_ n2_ n3_ n4_ n5_; (try clear hb); (try clear hb2); (try clear hk); (try clear hi)))
      go_ret
      exact ⟨by first | rfl | (simp [errW_none, errW_some] <;> rfl) | (simp [*, errW_none, errW_some] <;> rfl), bU HB.out⟩
  ·rw [if_neg c8] at H
   have c8b0 : (t606 == 0) = false := beq_eq_false_iff_ne.mpr c8
   have c8b1 : (t606 != 0) = true := bne_iff_ne.mpr c8
   obtain rfl := Option.some.inj H
   go_enter Tryd.func5, Tryd.ntmps5
   go_wp2_with (first | ((with_reducible refine gate_callee (f := 14) rfl ?_); refine goesLq (some 21) rfl rfl Tryd.func14 #[.int .u8 a0, .int .u16 a1, .slice A2 l2.length c2, .slice none 0 0] rfl ?_; (refine (insolvencylaw0_Parties.calls k a0 a1 _ _ l2 _ _ ([] : List (S66)) t593 t596 t599 _ ?side1 ?side2 ?side3 ?side4 A5.out).mono ?_); (case side1 => repeat (first | exact HR2.out | (with_reducible refine Kd.C_alloc ?_ _) | (with_reducible refine Kd.C_drewN ?_ _) | (with_reducible refine Kd.C_drew ?_))); (case side2 => exact HC2.out); (case side3 => exact Kd.C_nil _ _); (case side4 => exact Nat.le_refl _); rintro e w47 ⟨v594, v597, v600, rfl, ho0, ho1, ho2, hb⟩; refine ⟨_, rfl, ?_⟩; have n0_ := aM (Kd.R_lower ho0 (below_size (bU HB.out))); have n1_ := aM (Kd.R_lower ho1 (below_size (bU HB.out))); have n2_ := aM (Kd.R_lower ho2 (below_size (bU HB.out))); have n3_ := aM (below_step (bU HB.out) hb); clear HB; have HO595 := n0_; have HO598 := n1_; have HO601 := n2_; have HB := n3_; clear n0_ n1_ n2_ n3_; (try clear hb); (try clear hb2); (try clear hk); (try clear hi); (try clear ho0); (try clear ho1); (try clear ho2)) | ((with_reducible refine gate_dst (N := 9) rfl ?_); refine box_event ?hg (N := 9) ?hd (cs := #[.slice none 0 0, .slice none 0 0, .slice none 0 0]) (t := 26) ?hr ?_; (case hd => rfl); (case hg => rfl); (case hr => first | (go_simp; done) | (go_simp; rfl)); intro gb602 hg w48 hbox hb; have n0_ := aM (Kd.R_below (Kd.R_up HO595.out) hb); have n1_ := aM (Kd.R_below (Kd.R_up HO598.out) hb); have n2_ := aM (Kd.R_below (Kd.R_up HO601.out) hb); have n3_ := aM (below_step (bU HB.out) hb); have n4_ := aM (hbox); have n5_ := aM ((by rw [hg]; exact (below_size (bU HB.out)) : w.heap.size ≤ gb602)); have n6_ := aM ((by rw [hg]; exact (below_size (bU HB.out)) : w.heap.size ≤ gb602)); clear HO595; clear HO598; clear HO601; clear HB; have HO595 := n0_; have HO598 := n1_; have HO601 := n2_; have HB := n3_; have BK602 := n4_; have GW602 := n5_; have GE602 := n6_; clear n0_ n1_ n2_ n3_ n4_ n5_ n6_; clear hb hbox hg; obtain ⟨Ao49, co49, eo49⟩ := Kd.R_slice HO595.out; subst eo49; obtain ⟨hcz50_0, hcz50_1, hcz50_2, hfz50_0, hfz50_1, hfz50_2⟩ := cz3 BK602.out; obtain ⟨Ao51, co51, eo51⟩ := Kd.R_slice HO598.out; subst eo51; obtain ⟨Ao52, co52, eo52⟩ := Kd.R_slice HO601.out; subst eo52) | ((with_reducible refine gate_callee (f := 15) rfl ?_); refine goesLq (some 31) rfl rfl Tryd.func15 #[.agg #[.slice Ao49 t593.length co49, .slice Ao51 t596.length co51, .slice Ao52 t599.length co52], .int .i64 (Int.tmod (wrap64 (a3)) (t593.length : Int))] rfl ?_; (with_reducible refine (party_Controlled.calls k _ _ t593 _ _ t596 _ _ t599 (Int.tmod (wrap64 (a3)) (t593.length : Int)) t603 t606 _ ?side1 ?side2 ?side3 ?side4 ?side5 ?side6 A7.out).mono ?_); (case side1 => refine (Kd.R_reads' (e := 3) (base := w.heap.size) (ok := fun k_ => True) (n := t593.length) (c := co49) ?_).2.2; exact (Kd.R_up ((Kd.R_mono (Kd.R_far (p := ⟨gb602, 2, none⟩) (Kd.R_far (p := ⟨gb602, 1, none⟩) (Kd.R_far (p := ⟨gb602, 0, none⟩) (Kd.R_types HO595.out BK602.out (by decide)) (fun _ hk => hk.2) (.slice Ao49 t593.length co49)) (fun _ hk => hk.2) (.slice Ao51 t596.length co51)) (fun _ hk => hk.2) (.slice Ao52 t599.length co52)) (fun _ h_ => h_.1))))); (case side2 => exact (Kd.R_reads' HO595.out).2.1); (case side3 => refine (Kd.R_reads' (e := 36) (base := w.heap.size) (ok := fun k_ => True) (n := t596.length) (c := co51) ?_).2.2; exact (Kd.R_up ((Kd.R_mono (Kd.R_far (p := ⟨gb602, 2, none⟩) (Kd.R_far (p := ⟨gb602, 1, none⟩) (Kd.R_far (p := ⟨gb602, 0, none⟩) (Kd.R_types HO598.out BK602.out (by decide)) (fun _ hk => hk.2) (.slice Ao49 t593.length co49)) (fun _ hk => hk.2) (.slice Ao51 t596.length co51)) (fun _ hk => hk.2) (.slice Ao52 t599.length co52)) (fun _ h_ => h_.1))))); (case side4 => exact (Kd.R_reads' HO598.out).2.1); (case side5 => refine (Kd.R_reads' (e := 38) (base := w.heap.size) (ok := fun k_ => True) (n := t599.length) (c := co52) ?_).2.2; exact (Kd.R_up ((Kd.R_mono (Kd.R_far (p := ⟨gb602, 2, none⟩) (Kd.R_far (p := ⟨gb602, 1, none⟩) (Kd.R_far (p := ⟨gb602, 0, none⟩) (Kd.R_types HO601.out BK602.out (by decide)) (fun _ hk => hk.2) (.slice Ao49 t593.length co49)) (fun _ hk => hk.2) (.slice Ao51 t596.length co51)) (fun _ hk => hk.2) (.slice Ao52 t599.length co52)) (fun _ h_ => h_.1))))); (case side6 => exact (Kd.R_reads' HO601.out).2.1); rintro e w53 ⟨v604, rfl, ho0, hb⟩; refine ⟨_, rfl, ?_⟩; have n0_ := aM (Kd.R_elder' (Kd.R_up ((Kd.R_mono (Kd.R_far (p := ⟨gb602, 2, none⟩) (Kd.R_far (p := ⟨gb602, 1, none⟩) (Kd.R_far (p := ⟨gb602, 0, none⟩) (Kd.R_types HO595.out BK602.out (by decide)) (fun _ hk => hk.2) (.slice Ao49 t593.length co49)) (fun _ hk => hk.2) (.slice Ao51 t596.length co51)) (fun _ hk => hk.2) (.slice Ao52 t599.length co52)) (fun _ h_ => h_.1)))) (Kd.R_base ho0) hb); have n1_ := aM (Kd.R_below (Kd.R_up ((Kd.R_mono (Kd.R_far (p := ⟨gb602, 2, none⟩) (Kd.R_far (p := ⟨gb602, 1, none⟩) (Kd.R_far (p := ⟨gb602, 0, none⟩) (Kd.R_types HO598.out BK602.out (by decide)) (fun _ hk => hk.2) (.slice Ao49 t593.length co49)) (fun _ hk => hk.2) (.slice Ao51 t596.length co51)) (fun _ hk => hk.2) (.slice Ao52 t599.length co52)) (fun _ h_ => h_.1)))) hb); have n2_ := aM (Kd.R_below (Kd.R_up ((Kd.R_mono (Kd.R_far (p := ⟨gb602, 2, none⟩) (Kd.R_far (p := ⟨gb602, 1, none⟩) (Kd.R_far (p := ⟨gb602, 0, none⟩) (Kd.R_types HO601.out BK602.out (by decide)) (fun _ hk => hk.2) (.slice Ao49 t593.length co49)) (fun _ hk => hk.2) (.slice Ao51 t596.length co51)) (fun _ hk => hk.2) (.slice Ao52 t599.length co52)) (fun _ h_ => h_.1)))) hb); have n3_ := aM (Kd.R_lower (Kd.R_new' ho0 (Kd.R_lt (Kd.R_up ((Kd.R_mono (Kd.R_far (p := ⟨gb602, 2, none⟩) (Kd.R_far (p := ⟨gb602, 1, none⟩) (Kd.R_far (p := ⟨gb602, 0, none⟩) (Kd.R_types HO595.out BK602.out (by decide)) (fun _ hk => hk.2) (.slice Ao49 t593.length co49)) (fun _ hk => hk.2) (.slice Ao51 t596.length co51)) (fun _ hk => hk.2) (.slice Ao52 t599.length co52)) (fun _ h_ => h_.1)))))) (below_size (bU HB.out))); have n4_ := aM (blk_below (g := gb602) (o := .cells #[.slice Ao49 t593.length co49, .slice Ao51 t596.length co51, .slice Ao52 t599.length co52] 26 (0, 0)) (kP BK602.out) hb); have n5_ := aM (below_step (bU HB.out) hb); clear HO595; clear HO598; clear HO601; clear BK602; clear HB; have HO595 := n0_; have HO598 := n1_; have HO601 := n2_; have HO605 := n3_; have BK602 := n4_; have HB := n5_; clear n0_ n1_ n2_ n3_ n4_ n5_; (try clear hb); (try clear hb2); (try clear hk); (try clear hi); (try clear ho0)))
   go_ret
   exact ⟨by first | rfl | (simp [errW_none, errW_some] <;> rfl) | (simp [*, errW_none, errW_some] <;> rfl), bU HB.out⟩

end Go.Proofs.YtjeamaahhpbbkaaDoor.PAll
