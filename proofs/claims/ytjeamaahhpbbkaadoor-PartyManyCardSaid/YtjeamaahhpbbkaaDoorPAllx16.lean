-- PRINTED by a session's own changed print
import Derived.Test.YtjeamaahhpbbkaaDoorPAllx0
import Derived.Test.YtjeamaahhpbbkaaDoorPAllx3
import Derived.Test.YtjeamaahhpbbkaaDoorPAllx12
import Derived.Test.YtjeamaahhpbbkaaDoorPAllx15
namespace Go.Proofs.YtjeamaahhpbbkaaDoor.PAll
open Go.RowKit Go.Proofs.YtjeamaahhpbbkaaDoorW.PrintWords Go.Proofs.YtjeamaahhpbbkaaDoorW.PrintLast
set_option linter.unusedVariables false
set_option linter.unusedSimpArgs false

/-! ### insolvencylaw8_PartyMany: function 4 -/
mutual
def insolvencylaw8_PartyMany.l0 : Nat → Int → Int → Int → Int → List Int → Option (Bool)
 | 0, _, _, _, _, _ => none
 | k + 1, x0, x1, x2, x8, x557000 => if x8 < (wrap64 (2 + (wrap64 (Int.tmod x0 40)))) then (if x557000.length < 17592186044416 then (insolvencylaw8_PartyMany.l0 k x0 x1 x2 (wrap64 (x8 + 1)) (x557000 ++ [2])) else (none)) else (insolvencylaw8_PartyMany.l1 k x1 x2 0 x557000 ([] : List (S36)))
def insolvencylaw8_PartyMany.l1 : Nat → Int → Int → Int → List Int → List (S36) → Option (Bool)
 | 0, _, _, _, _, _ => none
 | k + 1, x1, x2, x9, x557000, x557001 => if x9 < (wrap64 (Int.tmod x1 70)) then ((insolvencylaw0_Ratio.f k 1 70).bind fun bt560 => (if x557001.length < 2513169434916 then (insolvencylaw8_PartyMany.l1 k x1 x2 (wrap64 (x9 + 1)) x557000 (x557001 ++ [(⟨0, 1, (⟨bt560.1, bt560.2.1, bt560.2.2⟩ : S33)⟩ : S36)])) else (none))) else (insolvencylaw8_PartyMany.l2 k x2 0 x557000 x557001 ([] : List (S38)))
def insolvencylaw8_PartyMany.l2 : Nat → Int → Int → List Int → List (S36) → List (S38) → Option (Bool)
 | 0, _, _, _, _, _ => none
 | k + 1, x2, x10, x557000, x557001, x557002 => if x10 < (wrap64 (Int.tmod x2 70)) then (if x557002.length < 8796093022208 then (insolvencylaw8_PartyMany.l2 k x2 (wrap64 (x10 + 1)) x557000 x557001 (x557002 ++ [(⟨0, 1⟩ : S38)])) else (none)) else (if (x557000.length : Int) > 32 then (insolvencylaw8_PartyMany.j3 k 0 true x557000 x557001 x557002) else (if (x557001.length : Int) > 64 then (insolvencylaw8_PartyMany.j3 k 0 true x557000 x557001 x557002) else (insolvencylaw8_PartyMany.j3 k 0 (decide ((x557002.length : Int) > 64)) x557000 x557001 x557002)))
def insolvencylaw8_PartyMany.j3 : Nat → Int → Bool → List Int → List (S36) → List (S38) → Option (Bool)
 | 0, _, _, _, _, _ => none
 | k + 1, x11, x68, x557000, x557001, x557002 => if x68 = true then ((insolvencylaw8_awake.f k).bind fun t569 => (if t569 = true then ((party_Check.f k x557000 x557001 x557002).bind fun t570 => (some (t570 == 2))) else (some false))) else ((insolvencylaw8_awake.f k).bind fun t571 => (if t571 = true then ((party_Check.f k x557000 x557001 x557002).bind fun t572 => (some (t572 == x11))) else (some false)))
end
def insolvencylaw8_PartyMany.f (k : Nat) (a0 : Int) (a1 : Int) (a2 : Int) : Option (Bool) := insolvencylaw8_PartyMany.l0 k a0 a1 a2 0 ([] : List Int)
theorem insolvencylaw8_PartyMany.mono_l : ∀ k, (∀ y0 y1 y2 y3 y4, LeO (insolvencylaw8_PartyMany.l0 k y0 y1 y2 y3 y4) (insolvencylaw8_PartyMany.l0 (k + 1) y0 y1 y2 y3 y4)) ∧ (∀ y0 y1 y2 y3 y4, LeO (insolvencylaw8_PartyMany.l1 k y0 y1 y2 y3 y4) (insolvencylaw8_PartyMany.l1 (k + 1) y0 y1 y2 y3 y4)) ∧ (∀ y0 y1 y2 y3 y4, LeO (insolvencylaw8_PartyMany.l2 k y0 y1 y2 y3 y4) (insolvencylaw8_PartyMany.l2 (k + 1) y0 y1 y2 y3 y4)) ∧ (∀ y0 y1 y2 y3 y4, LeO (insolvencylaw8_PartyMany.j3 k y0 y1 y2 y3 y4) (insolvencylaw8_PartyMany.j3 (k + 1) y0 y1 y2 y3 y4))
 | 0 => ⟨fun _ _ _ _ _ r h => by simp [insolvencylaw8_PartyMany.l0] at h, fun _ _ _ _ _ r h => by simp [insolvencylaw8_PartyMany.l1] at h, fun _ _ _ _ _ r h => by simp [insolvencylaw8_PartyMany.l2] at h, fun _ _ _ _ _ r h => by simp [insolvencylaw8_PartyMany.j3] at h⟩
 | k + 1 => by
  obtain ⟨ih0, ih1, ih2, ih3⟩ := insolvencylaw8_PartyMany.mono_l k
  refine ⟨?_, ?_, ?_, ?_⟩
  ·intro y0 y1 y2 y3 y4
   unfold insolvencylaw8_PartyMany.l0
   repeat' first
   | (with_reducible exact ih0 _ _ _ _ _)
   | (with_reducible exact ih1 _ _ _ _ _)
   | (with_reducible exact ih2 _ _ _ _ _)
   | (with_reducible exact ih3 _ _ _ _ _)
   | (with_reducible exact insolvencylaw0_Ratio.mono _ _ _)
   | (with_reducible exact insolvencylaw8_awake.mono _)
   | (with_reducible exact party_Check.mono _ _ _ _)
   | (with_reducible exact LeO.refl _)
   | (with_reducible exact LeO.none _)
   | (with_reducible refine LeO.ite ?_ ?_)
   | (with_reducible refine LeO.bind ?_ (fun _ => ?_))
   | exact ih0 _ _ _ _ _
   | exact ih1 _ _ _ _ _
   | exact ih2 _ _ _ _ _
   | exact ih3 _ _ _ _ _
   | exact insolvencylaw0_Ratio.mono _ _ _
   | exact insolvencylaw8_awake.mono _
   | exact party_Check.mono _ _ _ _
   | exact LeO.none _
   | refine LeO.ite ?_ ?_
   | refine LeO.bind ?_ (fun _ => ?_)
  ·intro y0 y1 y2 y3 y4
   unfold insolvencylaw8_PartyMany.l1
   repeat' first
   | (with_reducible exact ih0 _ _ _ _ _)
   | (with_reducible exact ih1 _ _ _ _ _)
   | (with_reducible exact ih2 _ _ _ _ _)
   | (with_reducible exact ih3 _ _ _ _ _)
   | (with_reducible exact insolvencylaw0_Ratio.mono _ _ _)
   | (with_reducible exact insolvencylaw8_awake.mono _)
   | (with_reducible exact party_Check.mono _ _ _ _)
   | (with_reducible exact LeO.refl _)
   | (with_reducible exact LeO.none _)
   | (with_reducible refine LeO.ite ?_ ?_)
   | (with_reducible refine LeO.bind ?_ (fun _ => ?_))
   | exact ih0 _ _ _ _ _
   | exact ih1 _ _ _ _ _
   | exact ih2 _ _ _ _ _
   | exact ih3 _ _ _ _ _
   | exact insolvencylaw0_Ratio.mono _ _ _
   | exact insolvencylaw8_awake.mono _
   | exact party_Check.mono _ _ _ _
   | exact LeO.none _
   | refine LeO.ite ?_ ?_
   | refine LeO.bind ?_ (fun _ => ?_)
  ·intro y0 y1 y2 y3 y4
   unfold insolvencylaw8_PartyMany.l2
   repeat' first
   | (with_reducible exact ih0 _ _ _ _ _)
   | (with_reducible exact ih1 _ _ _ _ _)
   | (with_reducible exact ih2 _ _ _ _ _)
   | (with_reducible exact ih3 _ _ _ _ _)
   | (with_reducible exact insolvencylaw0_Ratio.mono _ _ _)
   | (with_reducible exact insolvencylaw8_awake.mono _)
   | (with_reducible exact party_Check.mono _ _ _ _)
   | (with_reducible exact LeO.refl _)
   | (with_reducible exact LeO.none _)
   | (with_reducible refine LeO.ite ?_ ?_)
   | (with_reducible refine LeO.bind ?_ (fun _ => ?_))
   | exact ih0 _ _ _ _ _
   | exact ih1 _ _ _ _ _
   | exact ih2 _ _ _ _ _
   | exact ih3 _ _ _ _ _
   | exact insolvencylaw0_Ratio.mono _ _ _
   | exact insolvencylaw8_awake.mono _
   | exact party_Check.mono _ _ _ _
   | exact LeO.none _
   | refine LeO.ite ?_ ?_
   | refine LeO.bind ?_ (fun _ => ?_)
  ·intro y0 y1 y2 y3 y4
   unfold insolvencylaw8_PartyMany.j3
   repeat' first
   | (with_reducible exact ih0 _ _ _ _ _)
   | (with_reducible exact ih1 _ _ _ _ _)
   | (with_reducible exact ih2 _ _ _ _ _)
   | (with_reducible exact ih3 _ _ _ _ _)
   | (with_reducible exact insolvencylaw0_Ratio.mono _ _ _)
   | (with_reducible exact insolvencylaw8_awake.mono _)
   | (with_reducible exact party_Check.mono _ _ _ _)
   | (with_reducible exact LeO.refl _)
   | (with_reducible exact LeO.none _)
   | (with_reducible refine LeO.ite ?_ ?_)
   | (with_reducible refine LeO.bind ?_ (fun _ => ?_))
   | exact ih0 _ _ _ _ _
   | exact ih1 _ _ _ _ _
   | exact ih2 _ _ _ _ _
   | exact ih3 _ _ _ _ _
   | exact insolvencylaw0_Ratio.mono _ _ _
   | exact insolvencylaw8_awake.mono _
   | exact party_Check.mono _ _ _ _
   | exact LeO.none _
   | refine LeO.ite ?_ ?_
   | refine LeO.bind ?_ (fun _ => ?_)
theorem insolvencylaw8_PartyMany.mono : ∀ a0 a1 a2 k, LeO (insolvencylaw8_PartyMany.f k a0 a1 a2) (insolvencylaw8_PartyMany.f (k + 1) a0 a1 a2) := by
 intro a0 a1 a2 k
 obtain ⟨ih0, ih1, ih2, ih3⟩ := insolvencylaw8_PartyMany.mono_l k
 unfold insolvencylaw8_PartyMany.f
 repeat' first
   | (with_reducible exact ih0 _ _ _ _ _)
   | (with_reducible exact ih1 _ _ _ _ _)
   | (with_reducible exact ih2 _ _ _ _ _)
   | (with_reducible exact ih3 _ _ _ _ _)
   | (with_reducible exact insolvencylaw0_Ratio.mono _ _ _)
   | (with_reducible exact insolvencylaw8_awake.mono _)
   | (with_reducible exact party_Check.mono _ _ _ _)
   | (with_reducible exact LeO.refl _)
   | (with_reducible exact LeO.none _)
   | (with_reducible refine LeO.ite ?_ ?_)
   | (with_reducible refine LeO.bind ?_ (fun _ => ?_))
   | exact ih0 _ _ _ _ _
   | exact ih1 _ _ _ _ _
   | exact ih2 _ _ _ _ _
   | exact ih3 _ _ _ _ _
   | exact insolvencylaw0_Ratio.mono _ _ _
   | exact insolvencylaw8_awake.mono _
   | exact party_Check.mono _ _ _ _
   | exact LeO.none _
   | refine LeO.ite ?_ ?_
   | refine LeO.bind ?_ (fun _ => ?_)
def insolvencylaw8_PartyMany.T9 : Bool × List (List Nat × List Nat) := (true, [([], []), ([0], [0]), ([], []), ([2], [2]), ([3], [3]), ([1, 4, 2], [1, 4]), ([0, 1, 2, 3, 4, 5], []), ([6, 5, 5, 0, 1, 2, 3, 4, 5], [5, 6])])
def insolvencylaw8_PartyMany.B9 : List Nat := [0, 1, 0, 4, 12, 31, 63, 127]
theorem insolvencylaw8_PartyMany.tab9 : rtab .any (opsOf Tryd.f4 9) = insolvencylaw8_PartyMany.T9 := by kernel_rfl
theorem insolvencylaw8_PartyMany.bits9 : waitsOk insolvencylaw8_PartyMany.T9.2 insolvencylaw8_PartyMany.B9 = true := by kernel_rfl
set_option maxHeartbeats 8000000 in
set_option maxRecDepth 100000 in
theorem insolvencylaw8_PartyMany.calls (k : Nat) (a0 : Int) (a1 : Int) (a2 : Int) (r : Bool) (w : World) (h : insolvencylaw8_PartyMany.f k a0 a1 a2 = some r) :
  Calls Tryd.prog 4 #[.int .u8 a0, .int .u8 a1, .int .u8 a2] w fun e w' => e = .returned (.bool r) ∧ Below w.heap.size w w' := by
 have hu26 := Tryd.underlying26
 have hu36 := Tryd.underlying36
 have hu38 := Tryd.underlying38
 have HB := Aside0.mk (Below.refl w.heap.size w)
 have H : (insolvencylaw8_PartyMany.l0 k a0 a1 a2 0 ([] : List Int)) = some r := h
 clear h
 have H' := Aside0.mk H
 clear H
 go_enter Tryd.func4, Tryd.ntmps4
 go_wp2_with (first | ((with_reducible refine gate_dst (N := 7) rfl ?_); refine box_event ?hg (N := 7) ?hd (cs := #[.slice none 0 0, .slice none 0 0, .slice none 0 0]) (t := 26) ?hr ?_; (case hd => rfl); (case hg => rfl); (case hr => first | (go_simp; done) | (go_simp; rfl)); intro gb556 hg w4 hbox hb; have n0_ := Aside0.mk (below_step (bU HB.out) hb); have n1_ := Aside0.mk (hbox); have n2_ := Aside0.mk ((by rw [hg]; exact (below_size (bU HB.out)) : w.heap.size ≤ gb556)); have n3_ := Aside0.mk ((by rw [hg]; exact (below_size (bU HB.out)) : w.heap.size ≤ gb556)); clear HB; have HB := n0_; have BK556 := n1_; have GW556 := n2_; have GE556 := n3_; clear n0_ n1_ n2_ n3_; clear hb hbox hg; have hcz5_0 : w4.cell? ⟨gb556, 0, none⟩ = some (.slice none 0 0) := (blk_cell BK556.out 0).trans rfl; have hcz5_1 : w4.cell? ⟨gb556, 1, none⟩ = some (.slice none 0 0) := (blk_cell BK556.out 1).trans rfl; have hcz5_2 : w4.cell? ⟨gb556, 2, none⟩ = some (.slice none 0 0) := (blk_cell BK556.out 2).trans rfl; have hfz5_0 := blk_frozen BK556.out 0; have hfz5_1 := blk_frozen BK556.out 1; have hfz5_2 := blk_frozen BK556.out 2))
 go_loopg [8] k (fun kq v8 w' => ∃ (x8_1 : Int) (x557000_1 : List Int) (u557000 : Value), v8 = .int .i64 x8_1 ∧ Aside0 (insolvencylaw8_PartyMany.l0 kq a0 a1 a2 x8_1 x557000_1 = some r) ∧ Aside0 (kq ≤ k) ∧ Aside0 (Kd.R (Kd.int .i64) 3 w' w.heap.size (fun _ => True) u557000 x557000_1) ∧ Aside0 (w'.heap[gb556]? = some (.cells #[u557000, (.slice none 0 0), (.slice none 0 0)] 26 (0, 0))) ∧ Aside0 (Below w.heap.size w w'))
 case atStart => exact ⟨(0), (([] : List Int)), (.slice none 0 0), (by first | rfl | (simp; done) | (simp [*]; done)), H', ⟨Nat.le_refl _⟩, ⟨by first | exact Kd.R_nil _ _ _ _ _ | exact Kd.N_nil _ _ _ _ _ | exact Kd.V_nil _ _ _ _ _ | exact Kd.Q_nil _ _ _ _ _ | exact Kd.S_nil _ _ _ _ _⟩, ⟨by (with_reducible repeat (first | refine blk_drewN ?_ _ | refine blk_drew ?_ | refine blk_alloc ?_ _)); refine blk_put (cs := #[.slice none 0 0, .slice none 0 0, .slice none 0 0]) ?_ 2 _ rfl; (with_reducible repeat (first | refine blk_drewN ?_ _ | refine blk_drew ?_ | refine blk_alloc ?_ _)); refine blk_put (cs := #[.slice none 0 0, .slice none 0 0, .slice none 0 0]) ?_ 1 _ rfl; (with_reducible repeat (first | refine blk_drewN ?_ _ | refine blk_drew ?_ | refine blk_alloc ?_ _)); refine blk_put (cs := #[.slice none 0 0, .slice none 0 0, .slice none 0 0]) ?_ 0 _ rfl; (with_reducible repeat (first | refine blk_drewN ?_ _ | refine blk_drew ?_ | refine blk_alloc ?_ _)); exact BK556.out⟩, ⟨bU HB.out⟩⟩
 case round =>
  clear H'
  try clear p2
  try clear c4
  try clear hcz5_0
  try clear hcz5_1
  try clear hcz5_2
  try clear hfz5_0
  try clear hfz5_1
  try clear hfz5_2
  obtain ⟨x8_1, x557000_1, u557000, rfl, HA, HK1, HO_557000, BK556, HB⟩ := hrel
  cases gk with
  | zero => exact absurd HA.out (by simp [insolvencylaw8_PartyMany.l0])
  | succ k1 =>
   have H := HA.out
   clear HA
   simp only [insolvencylaw8_PartyMany.l0] at H
   by_cases c6 : x8_1 < (wrap64 (2 + (wrap64 (Int.tmod a0 40))))
   ·rw [if_pos c6] at H
    have c6b0 : decide (x8_1 < (wrap64 (2 + (wrap64 (Int.tmod a0 40))))) = true := decide_eq_true c6
    clear c6
    by_cases c7 : x557000_1.length < 17592186044416
    ·rw [if_pos c7] at H
     have LMc7 := Aside0.mk c7
     clear c7
     obtain ⟨y557, hy557⟩ : ∃ y_ : List Int, y_ = (x557000_1 ++ [2]) := ⟨_, rfl⟩
     replace H : (insolvencylaw8_PartyMany.l0 k1 a0 a1 a2 (wrap64 (x8_1 + 1)) y557) = some r := by first | (rw [hy557]; with_reducible exact H) | (have H2_ := (Option.bind_some _ _).symm.trans H; rw [hy557]; with_reducible exact H2_) | (have H2_ := (Option.bind_some _ _).symm.trans H; with_reducible exact H2_) | with_reducible exact H | (rw [hy557]; exact H) | exact H
     have Ny557 := Aside0.mk hy557
     clear hy557
     have H' := Aside0.mk H
     clear H
     have hcz8_0 : wr.cell? ⟨gb556, 0, none⟩ = some (u557000) := (blk_cell BK556.out 0).trans rfl
     have hcz8_1 : wr.cell? ⟨gb556, 1, none⟩ = some (.slice none 0 0) := (blk_cell BK556.out 1).trans rfl
     have hcz8_2 : wr.cell? ⟨gb556, 2, none⟩ = some (.slice none 0 0) := (blk_cell BK556.out 2).trans rfl
     have hfz8_0 := blk_frozen BK556.out 0
     have hfz8_1 := blk_frozen BK556.out 1
     have hfz8_2 := blk_frozen BK556.out 2
     go_wp2_with (first | ((with_reducible refine gate_builtin (b := .append) (xs := #[.tmp 22, .tmp 23]) rfl ?_); at_builtin; refine Kd.R_append (Kd.int .i64) (w0 := w) w.heap.size rfl (.tmp 22) (.tmp 23) 22 3 (.int .i64 0) 8 rfl Tryd.underlying22 info3 rfl (by decide) (by omega) u557000 x557000_1 2 [.int .i64 2] (fun _ => True) (fun _ => False) rfl rfl ?aP (fun _ hk => hk.elim) ?aF ?aO ?aB ?aS ?aL ?_; (case aP => exact rfl); (case aB => exact (bU HB.out)); (case aF => exact (fun _ _ => trivial)); (case aO => exact (Kd.R_up HO_557000.out)); (case aS => exact (below_size (bU HB.out))); (case aL => have := LMc7.out; omega); intro v558 w9 ho hb hg hat; rw [← Ny557.out] at ho; have n0_ := Aside0.mk (blk_grown (kU BK556.out) hg (Kd.R_ne HO_557000.out BK556.out (by decide))); have n1_ := Aside0.mk (hb); have n2_ := Aside0.mk (ho); clear BK556; clear HB; clear HO_557000; have BK556 := n0_; have HB := n1_; have HO559 := n2_; clear n0_ n1_ n2_; clear ho hb hg hat; obtain ⟨Ao10, co10, eo10⟩ := Kd.R_slice HO559.out; subst eo10; have hcz11_0 : w9.cell? ⟨gb556, 0, none⟩ = some (u557000) := (blk_cell BK556.out 0).trans rfl; have hcz11_1 : w9.cell? ⟨gb556, 1, none⟩ = some (.slice none 0 0) := (blk_cell BK556.out 1).trans rfl; have hcz11_2 : w9.cell? ⟨gb556, 2, none⟩ = some (.slice none 0 0) := (blk_cell BK556.out 2).trans rfl; have hfz11_0 := blk_frozen BK556.out 0; have hfz11_1 := blk_frozen BK556.out 1; have hfz11_2 := blk_frozen BK556.out 2))
     go_roundg k1
     case measure => have := HK1.out; omega
     case rel => exact ⟨(wrap64 (x8_1 + 1)), (y557), (.slice Ao10 y557.length co10), (by first | rfl | (simp; done) | (simp [*]; done)), H', ⟨by have := HK1.out; omega⟩, ⟨Kd.R_up (Kd.R_mono (Kd.R_far (p := ⟨gb556, 0, none⟩) (Kd.R_types HO559.out BK556.out (by decide)) (fun _ hk => hk.2) (.slice Ao10 y557.length co10)) (fun _ hk => trivial))⟩, ⟨by (with_reducible repeat (first | refine blk_drewN ?_ _ | refine blk_drew ?_ | refine blk_alloc ?_ _)); refine blk_put (cs := #[u557000, .slice none 0 0, .slice none 0 0]) ?_ 0 _ rfl; (with_reducible repeat (first | refine blk_drewN ?_ _ | refine blk_drew ?_ | refine blk_alloc ?_ _)); exact BK556.out⟩, ⟨bU HB.out⟩⟩
    ·rw [if_neg c7] at H
     exact absurd H (by simp)
   ·rw [if_neg c6] at H
    have c6b0 : decide (x8_1 < (wrap64 (2 + (wrap64 (Int.tmod a0 40))))) = false := decide_eq_false c6
    clear c6
    have H' := Aside0.mk H
    clear H
    go_wp2
    go_loopg [9] k1 (fun kq v9 w' => ∃ (x9_2 : Int) (x557001_2 : List (S36)) (u557001 : Value), v9 = .int .i64 x9_2 ∧ Aside0 (insolvencylaw8_PartyMany.l1 kq a1 a2 x9_2 x557000_1 x557001_2 = some r) ∧ Aside0 (kq ≤ k1) ∧ Aside0 (Kd.R (Kd.int .i64) 3 w' w.heap.size (fun _ => True) u557000 x557000_1) ∧ Aside0 (Kd.R k36 36 w' w.heap.size (fun _ => True) u557001 x557001_2) ∧ Aside0 (w'.heap[gb556]? = some (.cells #[u557000, u557001, (.slice none 0 0)] 26 (0, 0))) ∧ Aside0 (Below w.heap.size w w'))
    case atStart => exact ⟨(0), (([] : List (S36))), (.slice none 0 0), (by first | rfl | (simp; done) | (simp [*]; done)), H', ⟨Nat.le_refl _⟩, ⟨Kd.R_up HO_557000.out⟩, ⟨by first | exact Kd.R_nil _ _ _ _ _ | exact Kd.N_nil _ _ _ _ _ | exact Kd.V_nil _ _ _ _ _ | exact Kd.Q_nil _ _ _ _ _ | exact Kd.S_nil _ _ _ _ _⟩, ⟨kU BK556.out⟩, ⟨bU HB.out⟩⟩
    case round =>
     clear H'
     try clear p2
     try clear c4
     try clear c6
     try clear c6b0
     try clear p6
     try clear c7
     try clear hcz11_0
     try clear hcz11_1
     try clear hcz11_2
     try clear hcz5_0
     try clear hcz5_1
     try clear hcz5_2
     try clear hcz8_0
     try clear hcz8_1
     try clear hcz8_2
     try clear hfz11_0
     try clear hfz11_1
     try clear hfz11_2
     try clear hfz5_0
     try clear hfz5_1
     try clear hfz5_2
     try clear hfz8_0
     try clear hfz8_1
     try clear hfz8_2
     try clear p2
     obtain ⟨x9_2, x557001_2, u557001, rfl, HA, HK2, HO_557000, HO_557001, BK556, HB⟩ := hrel
     cases gk with
     | zero => exact absurd HA.out (by simp [insolvencylaw8_PartyMany.l1])
     | succ k2 =>
      have H := HA.out
      clear HA
      simp only [insolvencylaw8_PartyMany.l1] at H
      by_cases c12 : x9_2 < (wrap64 (Int.tmod a1 70))
      ·rw [if_pos c12] at H
       have c12b0 : decide (x9_2 < (wrap64 (Int.tmod a1 70))) = true := decide_eq_true c12
       clear c12
       replace H := Option.bind_eq_some_iff.mp H
       obtain ⟨⟨t560, t561, t562⟩, A130, H⟩ := H
       replace H : (if x557001_2.length < 2513169434916 then (insolvencylaw8_PartyMany.l1 k2 a1 a2 (wrap64 (x9_2 + 1)) x557000_1 (x557001_2 ++ [(⟨0, 1, (⟨t560, t561, t562⟩ : S33)⟩ : S36)])) else (none)) = some r := H
       have A13 := Aside0.mk A130
       clear A130
       by_cases c14 : x557001_2.length < 2513169434916
       ·rw [if_pos c14] at H
        have LMc14 := Aside0.mk c14
        clear c14
        obtain ⟨y563, hy563⟩ : ∃ y_ : List (S36), y_ = (x557001_2 ++ [(⟨0, 1, (⟨t560, t561, t562⟩ : S33)⟩ : S36)]) := ⟨_, rfl⟩
        replace H : (insolvencylaw8_PartyMany.l1 k2 a1 a2 (wrap64 (x9_2 + 1)) x557000_1 y563) = some r := by first | (rw [hy563]; with_reducible exact H) | (have H2_ := (Option.bind_some _ _).symm.trans H; rw [hy563]; with_reducible exact H2_) | (have H2_ := (Option.bind_some _ _).symm.trans H; with_reducible exact H2_) | with_reducible exact H | (rw [hy563]; exact H) | exact H
        have Ny563 := Aside0.mk hy563
        clear hy563
        have H' := Aside0.mk H
        clear H
        try go_wp2
        have n0_ := Aside0.mk (Kd.R_drew HO_557000.out)
        have n1_ := Aside0.mk (Kd.R_drew HO_557001.out)
        have n2_ := Aside0.mk (blk_drew BK556.out)
        have n3_ := Aside0.mk (below_drew1 HB.out)
        clear HO_557000
        clear HO_557001
        clear BK556
        clear HB
        have HO_557000 := n0_
        have HO_557001 := n1_
        have BK556 := n2_
        have HB := n3_
        clear n0_ n1_ n2_ n3_
        refine start_ (n := 8) (S := fun w' => w'.cell? ⟨gb556, 0, none⟩ = some (u557000) ∧ w'.cell? ⟨gb556, 1, none⟩ = some (u557001) ∧ w'.cell? ⟨gb556, 2, none⟩ = some (.slice none 0 0)) (ds := [7]) #[false, false, false, false, false, false, false, false] (by kernel_rfl) rfl rfl ⟨(blk_cell BK556.out 0).trans rfl, (blk_cell BK556.out 1).trans rfl, (blk_cell BK556.out 2).trans rfl⟩ (fun hHeld => ?_); refine with_tabW insolvencylaw8_PartyMany.tab9 insolvencylaw8_PartyMany.bits9 (fun HT_ HW_ => ?_)
        generalize wr.drew = w15 at HO_557000 HO_557001 BK556 HB hHeld ⊢
        refine pure_ (i := 0) (N := some 33) (v := ?_) (a' := ?_) #[true, false, false, false, false, false, false, false] rfl rfl (any_of HT_.out (by kernel_rfl)) (fun _ _ _ h => h) (Or.inl ⟨by rfl, ?_⟩) ?_ ?_
        rotate_left
        ·intro w'
         go_simp
         with_reducible rfl
        rotate_left
        ·simp only [Act.put, List.setIfInBounds_toArray, List.set_cons_zero, List.set_cons_succ, i64_w, i32_w]
         rfl
        refine take_ (i := 1) (N := some 34) (v := ?_) (a' := ?_) #[true, true, false, false, false, false, false, false] rfl rfl (take_ofW HT_.out HW_.out (by kernel_rfl)) (fun _ _ _ h => h) (Or.inl ⟨by rfl, ?_⟩) hHeld ?_ ?_
        rotate_left
        ·rintro w' ⟨s0, s1, s2⟩
         go_simp
         with_reducible rfl
        rotate_left
        ·simp only [Act.put, List.setIfInBounds_toArray, List.set_cons_zero, List.set_cons_succ, i64_w, i32_w]
         rfl
        refine one_ (i := 2) (N := some 35) #[true, true, true, false, false, false, false, false] rfl rfl (one_of HT_.out (by kernel_rfl)) (by decide) (fun K hK => ?_)
        refine goesq Tryd.func13 #[.int .i64 1, .int .i64 70] (by rfl) rfl rfl ?_
        with_reducible refine (insolvencylaw0_Ratio.calls k2 1 70 t560 t561 t562 _ A13.out).mono ?_
        rintro e w16 ⟨rfl, hb⟩
        refine ⟨_, rfl, ?_⟩
        have n0_ := Aside0.mk (Kd.R_below (Kd.R_up HO_557000.out) hb)
        have n1_ := Aside0.mk (Kd.R_below (Kd.R_up HO_557001.out) hb)
        have n2_ := Aside0.mk (blk_below (kU BK556.out) hb)
        have n3_ := Aside0.mk (below_step (bU HB.out) hb)
        clear HO_557000
        clear HO_557001
        clear BK556
        clear HB
        have HO_557000 := n0_
        have HO_557001 := n1_
        have BK556 := n2_
        have HB := n3_
        clear n0_ n1_ n2_ n3_
        (try clear hb)
        (try clear hb2)
        (try clear hk)
        (try clear hi)
        refine hK.out _ _ ⟨(blk_cell BK556.out 0).trans rfl, (blk_cell BK556.out 1).trans rfl, (blk_cell BK556.out 2).trans rfl⟩ (fun hHeld => ?_)
        clear hK K
        refine norm_ (a' := ?_) ?_ ?_
        rotate_left
        ·show Act.put _ (some 35) _ = _
         simp only [Act.put, List.setIfInBounds_toArray, List.set_cons_zero, List.set_cons_succ, i64_w, i32_w]
         rfl
        refine pure_ (i := 3) (N := some 36) (v := ?_) (a' := ?_) #[true, true, true, true, false, false, false, false] rfl rfl (any_of HT_.out (by kernel_rfl)) (fun _ _ _ h => h) (Or.inl ⟨by rfl, ?_⟩) ?_ ?_
        rotate_left
        ·intro w'
         go_simp
         with_reducible rfl
        rotate_left
        ·simp only [Act.put, List.setIfInBounds_toArray, List.set_cons_zero, List.set_cons_succ, i64_w, i32_w]
         rfl
        refine one_ (i := 4) (N := some 37) #[true, true, true, true, true, false, false, false] rfl rfl (one_of HT_.out (by kernel_rfl)) (by decide) (fun K hK => ?_)
        refine value_ (w1 := ?_) (v := ?_) (by rfl) rfl ?_ ?_
        rotate_left 2
        ·go_simp
         constructor
         ·rfl
         ·rfl
        refine hK.out _ _ ⟨(blk_cell (blk_alloc BK556.out _) 0).trans rfl, (blk_cell (blk_alloc BK556.out _) 1).trans rfl, (blk_cell (blk_alloc BK556.out _) 2).trans rfl⟩ (fun hHeld => ?_)
        clear hK K
        refine norm_ (a' := ?_) ?_ ?_
        rotate_left
        ·show Act.put _ (some 37) _ = _
         simp only [Act.put, List.setIfInBounds_toArray, List.set_cons_zero, List.set_cons_succ, i64_w, i32_w]
         rfl
        refine one_ (i := 5) (N := some 38) #[true, true, true, true, true, true, false, false] rfl rfl (one_of HT_.out (by kernel_rfl)) (by decide) (fun K hK => ?_)
        refine Kd.R_append_step k36 (w0 := w) w.heap.size (by rfl) (.tmp 34) (.tmp 37) 23 36 (.agg #[(.int .i64 0), (.int .i64 0), (.bool false), (.string ⟨#[]⟩), (.string ⟨#[]⟩)]) 56 rfl Tryd.underlying23 info36 rfl (by decide) (by omega) u557001 x557001_2 (⟨0, 1, (⟨t560, t561, t562⟩ : S33)⟩ : S36) [.int .i64 0, .int .i64 1, .bool t560, .string t561, .string t562] (fun _ => True) (fun _ => False) rfl rfl ?aP (fun _ hk => hk.elim) ?aF ?aO ?aB ?aS ?aL ?_
        (case aP => exact k36_mkM _ _ _ (⟨0, 1, (⟨t560, t561, t562⟩ : S33)⟩ : S36))
        (case aB => exact (bU HB.out))
        (case aF => exact (fun _ _ => trivial))
        (case aO => exact (Kd.R_up HO_557001.out))
        (case aS => exact (below_size (bU HB.out)))
        (case aL => have := LMc14.out; omega)
        intro v564 w17 ho hb hg hat
        rw [← Ny563.out] at ho
        have n0_ := Aside0.mk (Kd.R_over' (Kd.R_up HO_557000.out) (Kd.R_typed (Kd.R_up HO_557001.out)) (by decide) hg)
        have n1_ := Aside0.mk (blk_grown (kU BK556.out) hg (Kd.R_ne HO_557001.out BK556.out (by decide)))
        have n2_ := Aside0.mk (hb)
        have n3_ := Aside0.mk (ho)
        clear HO_557000
        clear BK556
        clear HB
        clear HO_557001
        have HO_557000 := n0_
        have BK556 := n1_
        have HB := n2_
        have HO565 := n3_
        clear n0_ n1_ n2_ n3_
        clear ho hb hg hat
        obtain ⟨Ao18, co18, eo18⟩ := Kd.R_slice HO565.out
        (first | subst eo18 | (injection eo18 with f1_ f2_ f3_; have f4_ := f1_.symm; have f5_ := f3_.symm; clear f1_ f2_ f3_; subst f4_; subst f5_))
        refine hK.out _ _ ⟨(blk_cell BK556.out 0).trans rfl, (blk_cell BK556.out 1).trans rfl, (blk_cell BK556.out 2).trans rfl⟩ (fun hHeld => ?_)
        clear hK K
        refine norm_ (a' := ?_) ?_ ?_
        rotate_left
        ·show Act.put _ (some 38) _ = _
         simp only [Act.put, List.setIfInBounds_toArray, List.set_cons_zero, List.set_cons_succ, i64_w, i32_w]
         rfl
        refine pure_ (i := 6) (N := some 39) (v := ?_) (a' := ?_) #[true, true, true, true, true, true, true, false] rfl rfl (any_of HT_.out (by kernel_rfl)) (fun _ _ _ h => h) (Or.inl ⟨by rfl, ?_⟩) ?_ ?_
        rotate_left
        ·intro w'
         go_simp
         with_reducible rfl
        rotate_left
        ·simp only [Act.put, List.setIfInBounds_toArray, List.set_cons_zero, List.set_cons_succ, i64_w, i32_w]
         rfl
        refine last_ (i := 7) (N := none) #[true, true, true, true, true, true, true, true] rfl rfl (one_of HT_.out (by kernel_rfl)) (by decide) (fun K hK => ?_)
        have hs19 : w17.cell? ⟨gb556, 1, none⟩ = some (u557001) := (blk_cell BK556.out 1).trans rfl
        have hfs19 := blk_frozen BK556.out 1
        refine skip_ (w1 := ?_) (by rfl) rfl ?_ ?_
        rotate_left
        ·go_simp
         rfl
        refine hK.out _ _ ?_
        clear hK K
        refine done_ (done_of HT_.out (by kernel_rfl)) ?_
        try go_wp2
        go_roundg k2
        case measure => have := HK1.out; have := HK2.out; omega
        case rel => exact ⟨(wrap64 (x9_2 + 1)), (y563), (.slice Ao18 y563.length co18), (by first | rfl | (simp; done) | (simp [*]; done)), H', ⟨by have := HK1.out; have := HK2.out; omega⟩, ⟨Kd.R_up (Kd.R_mono (Kd.R_far (p := ⟨gb556, 1, none⟩) (Kd.R_types HO_557000.out BK556.out (by decide)) (fun _ hk => hk.2) (.slice Ao18 y563.length co18)) (fun _ hk => trivial))⟩, ⟨Kd.R_up (Kd.R_mono (Kd.R_far (p := ⟨gb556, 1, none⟩) (Kd.R_types HO565.out BK556.out (by decide)) (fun _ hk => hk.2) (.slice Ao18 y563.length co18)) (fun _ hk => trivial))⟩, ⟨by (with_reducible repeat (first | refine blk_drewN ?_ _ | refine blk_drew ?_ | refine blk_alloc ?_ _)); refine blk_put (cs := #[u557000, u557001, .slice none 0 0]) ?_ 1 _ rfl; (with_reducible repeat (first | refine blk_drewN ?_ _ | refine blk_drew ?_ | refine blk_alloc ?_ _)); exact BK556.out⟩, ⟨bU HB.out⟩⟩
       ·rw [if_neg c14] at H
        exact absurd H (by simp)
      ·rw [if_neg c12] at H
       have c12b0 : decide (x9_2 < (wrap64 (Int.tmod a1 70))) = false := decide_eq_false c12
       clear c12
       have H' := Aside0.mk H
       clear H
       go_wp2
       go_loopg [10] k2 (fun kq v10 w' => ∃ (x10_3 : Int) (x557002_3 : List (S38)) (u557002 : Value), v10 = .int .i64 x10_3 ∧ Aside0 (insolvencylaw8_PartyMany.l2 kq a2 x10_3 x557000_1 x557001_2 x557002_3 = some r) ∧ Aside0 (kq ≤ k2) ∧ Aside0 (Kd.R (Kd.int .i64) 3 w' w.heap.size (fun _ => True) u557000 x557000_1) ∧ Aside0 (Kd.R k36 36 w' w.heap.size (fun _ => True) u557001 x557001_2) ∧ Aside0 (Kd.R k38 38 w' w.heap.size (fun _ => True) u557002 x557002_3) ∧ Aside0 (w'.heap[gb556]? = some (.cells #[u557000, u557001, u557002] 26 (0, 0))) ∧ Aside0 (Below w.heap.size w w'))
       case atStart => exact ⟨(0), (([] : List (S38))), (.slice none 0 0), (by first | rfl | (simp; done) | (simp [*]; done)), H', ⟨Nat.le_refl _⟩, ⟨Kd.R_up HO_557000.out⟩, ⟨Kd.R_up HO_557001.out⟩, ⟨by first | exact Kd.R_nil _ _ _ _ _ | exact Kd.N_nil _ _ _ _ _ | exact Kd.V_nil _ _ _ _ _ | exact Kd.Q_nil _ _ _ _ _ | exact Kd.S_nil _ _ _ _ _⟩, ⟨kU BK556.out⟩, ⟨bU HB.out⟩⟩
       case round =>
        clear H'
        try clear c1
        try clear p2
        try clear c4
        try clear c6
        try clear c6b0
        try clear p6
        try clear c7
        try clear c12
        try clear c12b0
        try clear c13
        try clear c14
        try clear hcz11_0
        try clear hcz11_1
        try clear hcz11_2
        try clear hcz5_0
        try clear hcz5_1
        try clear hcz5_2
        try clear hcz8_0
        try clear hcz8_1
        try clear hcz8_2
        try clear hfz11_0
        try clear hfz11_1
        try clear hfz11_2
        try clear hfz5_0
        try clear hfz5_1
        try clear hfz5_2
        try clear hfz8_0
        try clear hfz8_1
        try clear hfz8_2
        try clear p2
        try clear p6
        obtain ⟨x10_3, x557002_3, u557002, rfl, HA, HK3, HO_557000, HO_557001, HO_557002, BK556, HB⟩ := hrel
        cases gk with
        | zero => exact absurd HA.out (by simp [insolvencylaw8_PartyMany.l2])
        | succ k3 =>
         have H := HA.out
         clear HA
         simp only [insolvencylaw8_PartyMany.l2] at H
         by_cases c20 : x10_3 < (wrap64 (Int.tmod a2 70))
         ·rw [if_pos c20] at H
          have c20b0 : decide (x10_3 < (wrap64 (Int.tmod a2 70))) = true := decide_eq_true c20
          clear c20
          by_cases c21 : x557002_3.length < 8796093022208
          ·rw [if_pos c21] at H
           have LMc21 := Aside0.mk c21
           clear c21
           obtain ⟨y566, hy566⟩ : ∃ y_ : List (S38), y_ = (x557002_3 ++ [(⟨0, 1⟩ : S38)]) := ⟨_, rfl⟩
           replace H : (insolvencylaw8_PartyMany.l2 k3 a2 (wrap64 (x10_3 + 1)) x557000_1 x557001_2 y566) = some r := by first | (rw [hy566]; with_reducible exact H) | (have H2_ := (Option.bind_some _ _).symm.trans H; rw [hy566]; with_reducible exact H2_) | (have H2_ := (Option.bind_some _ _).symm.trans H; with_reducible exact H2_) | with_reducible exact H | (rw [hy566]; exact H) | exact H
           have Ny566 := Aside0.mk hy566
           clear hy566
           have H' := Aside0.mk H
           clear H
           have hcz22_0 : wr.cell? ⟨gb556, 0, none⟩ = some (u557000) := (blk_cell BK556.out 0).trans rfl
           have hcz22_1 : wr.cell? ⟨gb556, 1, none⟩ = some (u557001) := (blk_cell BK556.out 1).trans rfl
           have hcz22_2 : wr.cell? ⟨gb556, 2, none⟩ = some (u557002) := (blk_cell BK556.out 2).trans rfl
           have hfz22_0 := blk_frozen BK556.out 0
           have hfz22_1 := blk_frozen BK556.out 1
           have hfz22_2 := blk_frozen BK556.out 2
           go_wp2_with (first | ((with_reducible refine gate_builtin (b := .append) (xs := #[.tmp 48, .tmp 50]) rfl ?_); at_builtin; refine Kd.R_append k38 (w0 := w) w.heap.size rfl (.tmp 48) (.tmp 50) 24 38 (.agg #[(.int .i64 0), (.int .i64 0)]) 16 rfl Tryd.underlying24 info38 rfl (by decide) (by omega) u557002 x557002_3 (⟨0, 1⟩ : S38) [.int .i64 0, .int .i64 1] (fun _ => True) (fun _ => False) rfl rfl ?aP (fun _ hk => hk.elim) ?aF ?aO ?aB ?aS ?aL ?_; (case aP => exact k38_mkM _ _ _ (⟨0, 1⟩ : S38)); (case aB => exact (bU HB.out)); (case aF => exact (fun _ _ => trivial)); (case aO => exact (Kd.R_up HO_557002.out)); (case aS => exact (below_size (bU HB.out))); (case aL => have := LMc21.out; omega); intro v567 w23 ho hb hg hat; rw [← Ny566.out] at ho; have n0_ := Aside0.mk (Kd.R_over' (Kd.R_up HO_557000.out) (Kd.R_typed (Kd.R_up HO_557002.out)) (by decide) hg); have n1_ := Aside0.mk (Kd.R_over' (Kd.R_up HO_557001.out) (Kd.R_typed (Kd.R_up HO_557002.out)) (by decide) hg); have n2_ := Aside0.mk (blk_grown (kU BK556.out) hg (Kd.R_ne HO_557002.out BK556.out (by decide))); have n3_ := Aside0.mk (hb); have n4_ := Aside0.mk (ho); clear HO_557000; clear HO_557001; clear BK556; clear HB; clear HO_557002; have HO_557000 := n0_; have HO_557001 := n1_; have BK556 := n2_; have HB := n3_; have HO568 := n4_; clear n0_ n1_ n2_ n3_ n4_; clear ho hb hg hat; obtain ⟨Ao24, co24, eo24⟩ := Kd.R_slice HO568.out; subst eo24; have hcz25_0 : w23.cell? ⟨gb556, 0, none⟩ = some (u557000) := (blk_cell BK556.out 0).trans rfl; have hcz25_1 : w23.cell? ⟨gb556, 1, none⟩ = some (u557001) := (blk_cell BK556.out 1).trans rfl; have hcz25_2 : w23.cell? ⟨gb556, 2, none⟩ = some (u557002) := (blk_cell BK556.out 2).trans rfl; have hfz25_0 := blk_frozen BK556.out 0; have hfz25_1 := blk_frozen BK556.out 1; have hfz25_2 := blk_frozen BK556.out 2))
           go_roundg k3
           case measure => have := HK1.out; have := HK2.out; have := HK3.out; omega
           case rel => exact ⟨(wrap64 (x10_3 + 1)), (y566), (.slice Ao24 y566.length co24), (by first | rfl | (simp; done) | (simp [*]; done)), H', ⟨by have := HK1.out; have := HK2.out; have := HK3.out; omega⟩, ⟨Kd.R_up (Kd.R_mono (Kd.R_far (p := ⟨gb556, 2, none⟩) (Kd.R_types HO_557000.out BK556.out (by decide)) (fun _ hk => hk.2) (.slice Ao24 y566.length co24)) (fun _ hk => trivial))⟩, ⟨Kd.R_up (Kd.R_mono (Kd.R_far (p := ⟨gb556, 2, none⟩) (Kd.R_types HO_557001.out BK556.out (by decide)) (fun _ hk => hk.2) (.slice Ao24 y566.length co24)) (fun _ hk => trivial))⟩, ⟨Kd.R_up (Kd.R_mono (Kd.R_far (p := ⟨gb556, 2, none⟩) (Kd.R_types HO568.out BK556.out (by decide)) (fun _ hk => hk.2) (.slice Ao24 y566.length co24)) (fun _ hk => trivial))⟩, ⟨by (with_reducible repeat (first | refine blk_drewN ?_ _ | refine blk_drew ?_ | refine blk_alloc ?_ _)); refine blk_put (cs := #[u557000, u557001, u557002]) ?_ 2 _ rfl; (with_reducible repeat (first | refine blk_drewN ?_ _ | refine blk_drew ?_ | refine blk_alloc ?_ _)); exact BK556.out⟩, ⟨bU HB.out⟩⟩
          ·rw [if_neg c21] at H
           exact absurd H (by simp)
         ·rw [if_neg c20] at H
          have c20b0 : decide (x10_3 < (wrap64 (Int.tmod a2 70))) = false := decide_eq_false c20
          clear c20
          have HC26 := Aside0.mk H
          clear H
          go_upto_region 15 with (fail)
          go_cut [68] (fun v68 wc => ∃ (kq : Nat) (x68_25 : Bool), v68 = .bool x68_25 ∧ Aside0 (insolvencylaw8_PartyMany.j3 kq 0 x68_25 x557000_1 x557001_2 x557002_3 = some r) ∧ Aside0 (kq ≤ k3) ∧ Aside0 (Kd.R (Kd.int .i64) 3 wc w.heap.size (fun _ => True) u557000 x557000_1) ∧ Aside0 (Kd.R k36 36 wc w.heap.size (fun _ => True) u557001 x557001_2) ∧ Aside0 (Kd.R k38 38 wc w.heap.size (fun _ => True) u557002 x557002_3) ∧ Aside0 (wc.heap[gb556]? = some (.cells #[u557000, u557001, u557002] 26 (0, 0))) ∧ Aside0 (Below w.heap.size w wc))
          case first =>
           have H := HC26.out
           clear HC26
           by_cases c27 : (x557000_1.length : Int) > 32
           ·rw [if_pos c27] at H
            have c27b0 : decide (32 < (x557000_1.length : Int)) = true := decide_eq_true c27
            have c27b1 : decide (32 < x557000_1.length) = true := decide_eq_true (by omega)
            clear c27
            (first | rw [c27b0] | (simp only [i64_w, i32_w]; rw [c27b0]) | rw [c27b1] | skip)
            have H' := Aside0.mk H
            clear H
            have hcz28_0 : wr.cell? ⟨gb556, 0, none⟩ = some (u557000) := (blk_cell BK556.out 0).trans rfl
            have hcz28_1 : wr.cell? ⟨gb556, 1, none⟩ = some (u557001) := (blk_cell BK556.out 1).trans rfl
            have hcz28_2 : wr.cell? ⟨gb556, 2, none⟩ = some (u557002) := (blk_cell BK556.out 2).trans rfl
            have hfz28_0 := blk_frozen BK556.out 0
            have hfz28_1 := blk_frozen BK556.out 1
            have hfz28_2 := blk_frozen BK556.out 2
            obtain ⟨Ao29, co29, eo29⟩ := Kd.R_slice HO_557000.out
            subst eo29
            go_wp2
            go_meet
            case rel => exact ⟨_, (true), (by first | rfl | (simp; done) | (simp [*]; done)), H', ⟨by have := HK1.out; have := HK2.out; have := HK3.out; first | omega | exact Nat.le_refl _⟩, ⟨Kd.R_up HO_557000.out⟩, ⟨Kd.R_up HO_557001.out⟩, ⟨Kd.R_up HO_557002.out⟩, ⟨kU BK556.out⟩, ⟨bU HB.out⟩⟩
           ·rw [if_neg c27] at H
            have c27b0 : decide (32 < (x557000_1.length : Int)) = false := decide_eq_false c27
            have c27b1 : decide (32 < x557000_1.length) = false := decide_eq_false (by omega)
            clear c27
            (first | rw [c27b0] | (simp only [i64_w, i32_w]; rw [c27b0]) | rw [c27b1] | skip)
            by_cases c30 : (x557001_2.length : Int) > 64
            ·rw [if_pos c30] at H
             have c30b0 : decide (64 < (x557001_2.length : Int)) = true := decide_eq_true c30
             have c30b1 : decide (64 < x557001_2.length) = true := decide_eq_true (by omega)
             clear c30
             have H' := Aside0.mk H
             clear H
             have hcz31_0 : wr.cell? ⟨gb556, 0, none⟩ = some (u557000) := (blk_cell BK556.out 0).trans rfl
             have hcz31_1 : wr.cell? ⟨gb556, 1, none⟩ = some (u557001) := (blk_cell BK556.out 1).trans rfl
             have hcz31_2 : wr.cell? ⟨gb556, 2, none⟩ = some (u557002) := (blk_cell BK556.out 2).trans rfl
             have hfz31_0 := blk_frozen BK556.out 0
             have hfz31_1 := blk_frozen BK556.out 1
             have hfz31_2 := blk_frozen BK556.out 2
             obtain ⟨Ao32, co32, eo32⟩ := Kd.R_slice HO_557000.out
             subst eo32
             obtain ⟨Ao33, co33, eo33⟩ := Kd.R_slice HO_557001.out
             subst eo33
             go_wp2
             go_meet
             case rel => exact ⟨_, (true), (by first | rfl | (simp; done) | (simp [*]; done)), H', ⟨by have := HK1.out; have := HK2.out; have := HK3.out; first | omega | exact Nat.le_refl _⟩, ⟨Kd.R_up HO_557000.out⟩, ⟨Kd.R_up HO_557001.out⟩, ⟨Kd.R_up HO_557002.out⟩, ⟨kU BK556.out⟩, ⟨bU HB.out⟩⟩
            ·rw [if_neg c30] at H
             have c30b0 : decide (64 < (x557001_2.length : Int)) = false := decide_eq_false c30
             have c30b1 : decide (64 < x557001_2.length) = false := decide_eq_false (by omega)
             clear c30
             have H' := Aside0.mk H
             clear H
             have hcz34_0 : wr.cell? ⟨gb556, 0, none⟩ = some (u557000) := (blk_cell BK556.out 0).trans rfl
             have hcz34_1 : wr.cell? ⟨gb556, 1, none⟩ = some (u557001) := (blk_cell BK556.out 1).trans rfl
             have hcz34_2 : wr.cell? ⟨gb556, 2, none⟩ = some (u557002) := (blk_cell BK556.out 2).trans rfl
             have hfz34_0 := blk_frozen BK556.out 0
             have hfz34_1 := blk_frozen BK556.out 1
             have hfz34_2 := blk_frozen BK556.out 2
             obtain ⟨Ao35, co35, eo35⟩ := Kd.R_slice HO_557000.out
             subst eo35
             obtain ⟨Ao36, co36, eo36⟩ := Kd.R_slice HO_557001.out
             subst eo36
             obtain ⟨Ao37, co37, eo37⟩ := Kd.R_slice HO_557002.out
             subst eo37
             go_wp2
             go_meet
             case rel => exact ⟨_, (decide ((x557002_3.length : Int) > 64)), (by first | rfl | (simp; done) | (simp [*]; done)), H', ⟨by have := HK1.out; have := HK2.out; have := HK3.out; first | omega | exact Nat.le_refl _⟩, ⟨Kd.R_up HO_557000.out⟩, ⟨Kd.R_up HO_557001.out⟩, ⟨Kd.R_up HO_557002.out⟩, ⟨kU BK556.out⟩, ⟨bU HB.out⟩⟩
          case rest =>
           clear HC26
           try clear c1
           try clear c2
           try clear p2
           try clear c3
           try clear c4
           try clear c6
           try clear c6b0
           try clear p6
           try clear c7
           try clear c12
           try clear c12b0
           try clear c13
           try clear c14
           try clear c20
           try clear c20b0
           try clear c21
           try clear c27
           try clear c27b0
           try clear c27b1
           try clear c30
           try clear c30b0
           try clear c30b1
           try clear hcz11_0
           try clear hcz11_1
           try clear hcz11_2
           try clear hcz22_0
           try clear hcz22_1
           try clear hcz22_2
           try clear hcz25_0
           try clear hcz25_1
           try clear hcz25_2
           try clear hcz28_0
           try clear hcz28_1
           try clear hcz28_2
           try clear hcz31_0
           try clear hcz31_1
           try clear hcz31_2
           try clear hcz34_0
           try clear hcz34_1
           try clear hcz34_2
           try clear hcz5_0
           try clear hcz5_1
           try clear hcz5_2
           try clear hcz8_0
           try clear hcz8_1
           try clear hcz8_2
           try clear hfz11_0
           try clear hfz11_1
           try clear hfz11_2
           try clear hfz22_0
           try clear hfz22_1
           try clear hfz22_2
           try clear hfz25_0
           try clear hfz25_1
           try clear hfz25_2
           try clear hfz28_0
           try clear hfz28_1
           try clear hfz28_2
           try clear hfz31_0
           try clear hfz31_1
           try clear hfz31_2
           try clear hfz34_0
           try clear hfz34_1
           try clear hfz34_2
           try clear hfz5_0
           try clear hfz5_1
           try clear hfz5_2
           try clear hfz8_0
           try clear hfz8_1
           try clear hfz8_2
           try clear p2
           try clear p6
           obtain ⟨kq, x68_25, rfl, HA, HJ25, HO_557000, HO_557001, HO_557002, BK556, HB⟩ := hcut
           cases kq with
           | zero => exact absurd HA.out (by simp [insolvencylaw8_PartyMany.j3])
           | succ kj25 =>
            have H := HA.out
            clear HA
            simp only [insolvencylaw8_PartyMany.j3] at H
            by_cases c38 : x68_25 = true
            ·subst c38
             have H1 : ((insolvencylaw8_awake.f kj25).bind fun t569 => (if t569 = true then ((party_Check.f kj25 x557000_1 x557001_2 x557002_3).bind fun t570 => (some (t570 == 2))) else (some false))) = some r := by rw [if_pos rfl] at H; exact H
             clear H
             have H := H1
             clear H1
             replace H := Option.bind_eq_some_iff.mp H
             obtain ⟨t569, A390, H⟩ := H
             replace H : (if t569 = true then ((party_Check.f kj25 x557000_1 x557001_2 x557002_3).bind fun t570 => (some (t570 == 2))) else (some false)) = some r := H
             have A39 := Aside0.mk A390
             clear A390
             by_cases c40 : t569 = true
             ·subst c40
              have H1 : ((party_Check.f kj25 x557000_1 x557001_2 x557002_3).bind fun t570 => (some (t570 == 2))) = some r := by rw [if_pos rfl] at H; exact H
              clear H
              have H := H1
              clear H1
              replace H := Option.bind_eq_some_iff.mp H
              obtain ⟨t570, A410, H⟩ := H
              replace H : (some (t570 == 2)) = some r := H
              have A41 := Aside0.mk A410
              clear A410
              obtain rfl := Option.some.inj H
              go_wp2_with (first | ((with_reducible refine gate_callee (f := 10) rfl ?_); refine goesLq (some 69) rfl rfl Tryd.func10 #[] rfl ?_; (with_reducible refine (insolvencylaw8_awake.calls kj25  true _ A39.out).mono ?_); rintro e w42 ⟨rfl, hb⟩; refine ⟨_, rfl, ?_⟩; have n0_ := Aside0.mk (Kd.R_below (Kd.R_up HO_557000.out) hb); have n1_ := Aside0.mk (Kd.R_below (Kd.R_up HO_557001.out) hb); have n2_ := Aside0.mk (Kd.R_below (Kd.R_up HO_557002.out) hb); have n3_ := Aside0.mk (blk_below (kU BK556.out) hb); have n4_ := Aside0.mk (below_step (bU HB.out) hb); clear HO_557000; clear HO_557001; clear HO_557002; clear BK556; clear HB; have HO_557000 := n0_; have HO_557001 := n1_; have HO_557002 := n2_; have BK556 := n3_; have HB := n4_; clear n0_ n1_ n2_ n3_ n4_; (try clear hb); (try clear hb2); (try clear hk); (try clear hi); have hcz43_0 : w42.cell? ⟨gb556, 0, none⟩ = some (u557000) := (blk_cell BK556.out 0).trans rfl; have hcz43_1 : w42.cell? ⟨gb556, 1, none⟩ = some (u557001) := (blk_cell BK556.out 1).trans rfl; have hcz43_2 : w42.cell? ⟨gb556, 2, none⟩ = some (u557002) := (blk_cell BK556.out 2).trans rfl; have hfz43_0 := blk_frozen BK556.out 0; have hfz43_1 := blk_frozen BK556.out 1; have hfz43_2 := blk_frozen BK556.out 2; obtain ⟨Ao44, co44, eo44⟩ := Kd.R_slice HO_557000.out; subst eo44; obtain ⟨Ao45, co45, eo45⟩ := Kd.R_slice HO_557001.out; subst eo45; obtain ⟨Ao46, co46, eo46⟩ := Kd.R_slice HO_557002.out; subst eo46) | (go_at_call 11; (with_reducible refine (party_Check.calls kj25 _ _ x557000_1 _ _ x557001_2 _ _ x557002_3 t570 _ ?side1 ?side2 ?side3 ?side4 ?side5 ?side6 A41.out).mono ?_); (case side1 => repeat (first | exact (Kd.R_reads' HO_557000.out).2.2 | (with_reducible refine Kd.C_alloc ?_ _) | (with_reducible refine Kd.C_drewN ?_ _) | (with_reducible refine Kd.C_drew ?_))); (case side2 => exact (Kd.R_reads' HO_557000.out).2.1); (case side3 => repeat (first | exact (Kd.R_reads' HO_557001.out).2.2 | (with_reducible refine Kd.C_alloc ?_ _) | (with_reducible refine Kd.C_drewN ?_ _) | (with_reducible refine Kd.C_drew ?_))); (case side4 => exact (Kd.R_reads' HO_557001.out).2.1); (case side5 => repeat (first | exact (Kd.R_reads' HO_557002.out).2.2 | (with_reducible refine Kd.C_alloc ?_ _) | (with_reducible refine Kd.C_drewN ?_ _) | (with_reducible refine Kd.C_drew ?_))); (case side6 => exact (Kd.R_reads' HO_557002.out).2.1); rintro e w47 ⟨rfl, hb⟩; have n0_ := Aside0.mk (Kd.R_below (Kd.R_up HO_557000.out) hb); have n1_ := Aside0.mk (Kd.R_below (Kd.R_up HO_557001.out) hb); have n2_ := Aside0.mk (Kd.R_below (Kd.R_up HO_557002.out) hb); have n3_ := Aside0.mk (blk_below (kU BK556.out) hb); have n4_ := Aside0.mk (below_step (bU HB.out) hb); clear HO_557000; clear HO_557001; clear HO_557002; clear BK556; clear HB; have HO_557000 := n0_; have HO_557001 := n1_; have HO_557002 := n2_; have BK556 := n3_; have HB := n4_; clear n0_ n1_ n2_ n3_ n4_; (try clear hb); (try clear hb2); (try clear hk); (try clear hi)))
              go_ret
              exact ⟨by first | rfl | (simp [errW_none, errW_some] <;> rfl) | (simp [*, errW_none, errW_some] <;> rfl), bU HB.out⟩
             ·replace c40 := Bool.eq_false_iff.mpr c40
              subst c40
              have H1 : (some false) = some r := by rw [if_neg (show ¬ (false = true) by decide)] at H; exact H
              clear H
              have H := H1
              clear H1
              obtain rfl := Option.some.inj H
              go_wp2_with (first | ((with_reducible refine gate_callee (f := 10) rfl ?_); refine goesLq (some 69) rfl rfl Tryd.func10 #[] rfl ?_; (with_reducible refine (insolvencylaw8_awake.calls kj25  false _ A39.out).mono ?_); rintro e w48 ⟨rfl, hb⟩; refine ⟨_, rfl, ?_⟩; have n0_ := Aside0.mk (Kd.R_below (Kd.R_up HO_557000.out) hb); have n1_ := Aside0.mk (Kd.R_below (Kd.R_up HO_557001.out) hb); have n2_ := Aside0.mk (Kd.R_below (Kd.R_up HO_557002.out) hb); have n3_ := Aside0.mk (blk_below (kU BK556.out) hb); have n4_ := Aside0.mk (below_step (bU HB.out) hb); clear HO_557000; clear HO_557001; clear HO_557002; clear BK556; clear HB; have HO_557000 := n0_; have HO_557001 := n1_; have HO_557002 := n2_; have BK556 := n3_; have HB := n4_; clear n0_ n1_ n2_ n3_ n4_; (try clear hb); (try clear hb2); (try clear hk); (try clear hi)))
              go_ret
              exact ⟨by first | rfl | (simp [errW_none, errW_some] <;> rfl) | (simp [*, errW_none, errW_some] <;> rfl), bU HB.out⟩
            ·replace c38 := Bool.eq_false_iff.mpr c38
             subst c38
             have H1 : ((insolvencylaw8_awake.f kj25).bind fun t571 => (if t571 = true then ((party_Check.f kj25 x557000_1 x557001_2 x557002_3).bind fun t572 => (some (t572 == 0))) else (some false))) = some r := by rw [if_neg (show ¬ (false = true) by decide)] at H; exact H
             clear H
             have H := H1
             clear H1
             replace H := Option.bind_eq_some_iff.mp H
             obtain ⟨t571, A490, H⟩ := H
             replace H : (if t571 = true then ((party_Check.f kj25 x557000_1 x557001_2 x557002_3).bind fun t572 => (some (t572 == 0))) else (some false)) = some r := H
             have A49 := Aside0.mk A490
             clear A490
             by_cases c50 : t571 = true
             ·subst c50
              have H1 : ((party_Check.f kj25 x557000_1 x557001_2 x557002_3).bind fun t572 => (some (t572 == 0))) = some r := by rw [if_pos rfl] at H; exact H
              clear H
              have H := H1
              clear H1
              replace H := Option.bind_eq_some_iff.mp H
              obtain ⟨t572, A510, H⟩ := H
              replace H : (some (t572 == 0)) = some r := H
              have A51 := Aside0.mk A510
              clear A510
              obtain rfl := Option.some.inj H
              go_wp2_with (first | ((with_reducible refine gate_callee (f := 10) rfl ?_); refine goesLq (some 69) rfl rfl Tryd.func10 #[] rfl ?_; (with_reducible refine (insolvencylaw8_awake.calls kj25  true _ A49.out).mono ?_); rintro e w52 ⟨rfl, hb⟩; refine ⟨_, rfl, ?_⟩; have n0_ := Aside0.mk (Kd.R_below (Kd.R_up HO_557000.out) hb); have n1_ := Aside0.mk (Kd.R_below (Kd.R_up HO_557001.out) hb); have n2_ := Aside0.mk (Kd.R_below (Kd.R_up HO_557002.out) hb); have n3_ := Aside0.mk (blk_below (kU BK556.out) hb); have n4_ := Aside0.mk (below_step (bU HB.out) hb); clear HO_557000; clear HO_557001; clear HO_557002; clear BK556; clear HB; have HO_557000 := n0_; have HO_557001 := n1_; have HO_557002 := n2_; have BK556 := n3_; have HB := n4_; clear n0_ n1_ n2_ n3_ n4_; (try clear hb); (try clear hb2); (try clear hk); (try clear hi); have hcz53_0 : w52.cell? ⟨gb556, 0, none⟩ = some (u557000) := (blk_cell BK556.out 0).trans rfl; have hcz53_1 : w52.cell? ⟨gb556, 1, none⟩ = some (u557001) := (blk_cell BK556.out 1).trans rfl; have hcz53_2 : w52.cell? ⟨gb556, 2, none⟩ = some (u557002) := (blk_cell BK556.out 2).trans rfl; have hfz53_0 := blk_frozen BK556.out 0; have hfz53_1 := blk_frozen BK556.out 1; have hfz53_2 := blk_frozen BK556.out 2; obtain ⟨Ao54, co54, eo54⟩ := Kd.R_slice HO_557000.out; subst eo54; obtain ⟨Ao55, co55, eo55⟩ := Kd.R_slice HO_557001.out; subst eo55; obtain ⟨Ao56, co56, eo56⟩ := Kd.R_slice HO_557002.out; subst eo56) | (go_at_call 11; (with_reducible refine (party_Check.calls kj25 _ _ x557000_1 _ _ x557001_2 _ _ x557002_3 t572 _ ?side1 ?side2 ?side3 ?side4 ?side5 ?side6 A51.out).mono ?_); (case side1 => repeat (first | exact (Kd.R_reads' HO_557000.out).2.2 | (with_reducible refine Kd.C_alloc ?_ _) | (with_reducible refine Kd.C_drewN ?_ _) | (with_reducible refine Kd.C_drew ?_))); (case side2 => exact (Kd.R_reads' HO_557000.out).2.1); (case side3 => repeat (first | exact (Kd.R_reads' HO_557001.out).2.2 | (with_reducible refine Kd.C_alloc ?_ _) | (with_reducible refine Kd.C_drewN ?_ _) | (with_reducible refine Kd.C_drew ?_))); (case side4 => exact (Kd.R_reads' HO_557001.out).2.1); (case side5 => repeat (first | exact (Kd.R_reads' HO_557002.out).2.2 | (with_reducible refine Kd.C_alloc ?_ _) | (with_reducible refine Kd.C_drewN ?_ _) | (with_reducible refine Kd.C_drew ?_))); (case side6 => exact (Kd.R_reads' HO_557002.out).2.1); rintro e w57 ⟨rfl, hb⟩; have n0_ := Aside0.mk (Kd.R_below (Kd.R_up HO_557000.out) hb); have n1_ := Aside0.mk (Kd.R_below (Kd.R_up HO_557001.out) hb); have n2_ := Aside0.mk (Kd.R_below (Kd.R_up HO_557002.out) hb); have n3_ := Aside0.mk (blk_below (kU BK556.out) hb); have n4_ := Aside0.mk (below_step (bU HB.out) hb); clear HO_557000; clear HO_557001; clear HO_557002; clear BK556; clear HB; have HO_557000 := n0_; have HO_557001 := n1_; have HO_557002 := n2_; have BK556 := n3_; have HB := n4_; clear n0_ n1_ n2_ n3_ n4_; (try clear hb); (try clear hb2); (try clear hk); (try clear hi)))
              go_ret
              exact ⟨by first | rfl | (simp [errW_none, errW_some] <;> rfl) | (simp [*, errW_none, errW_some] <;> rfl), bU HB.out⟩
             ·replace c50 := Bool.eq_false_iff.mpr c50
              subst c50
              have H1 : (some false) = some r := by rw [if_neg (show ¬ (false = true) by decide)] at H; exact H
              clear H
              have H := H1
              clear H1
              obtain rfl := Option.some.inj H
              go_wp2_with (first | ((with_reducible refine gate_callee (f := 10) rfl ?_); refine goesLq (some 69) rfl rfl Tryd.func10 #[] rfl ?_; (with_reducible refine (insolvencylaw8_awake.calls kj25  false _ A49.out).mono ?_); rintro e w58 ⟨rfl, hb⟩; refine ⟨_, rfl, ?_⟩; have n0_ := Aside0.mk (Kd.R_below (Kd.R_up HO_557000.out) hb); have n1_ := Aside0.mk (Kd.R_below (Kd.R_up HO_557001.out) hb); have n2_ := Aside0.mk (Kd.R_below (Kd.R_up HO_557002.out) hb); have n3_ := Aside0.mk (blk_below (kU BK556.out) hb); have n4_ := Aside0.mk (below_step (bU HB.out) hb); clear HO_557000; clear HO_557001; clear HO_557002; clear BK556; clear HB; have HO_557000 := n0_; have HO_557001 := n1_; have HO_557002 := n2_; have BK556 := n3_; have HB := n4_; clear n0_ n1_ n2_ n3_ n4_; (try clear hb); (try clear hb2); (try clear hk); (try clear hi)))
              go_ret
              exact ⟨by first | rfl | (simp [errW_none, errW_some] <;> rfl) | (simp [*, errW_none, errW_some] <;> rfl), bU HB.out⟩

/-- THE ONE PURE STATEMENT of insolvencylaw8_PartyMany: yours. -/
def insolvencylaw8_PartyMany.Pure : Prop := ∀ (a0 : Int) (a1 : Int) (a2 : Int), (Lit.int .u8 a0).wf = true → (Lit.int .u8 a1).wf = true → (Lit.int .u8 a2).wf = true → ∃ k, insolvencylaw8_PartyMany.f k a0 a1 a2 = some true
theorem insolvencylaw8_PartyMany.walk (P : insolvencylaw8_PartyMany.Pure) (a0 : Int) (a1 : Int) (a2 : Int) (w : World) (w0 : (Lit.int .u8 a0).wf = true) (w1 : (Lit.int .u8 a1).wf = true) (w2 : (Lit.int .u8 a2).wf = true) :
  Calls Tryd.prog 4 #[.int .u8 a0, .int .u8 a1, .int .u8 a2] w fun e w' => e = .returned (.bool true) ∧ Below w.heap.size w w' := by
 obtain ⟨k, h⟩ := P a0 a1 a2 w0 w1 w2
 refine (insolvencylaw8_PartyMany.calls k a0 a1 a2 true w h).mono ?_
 rintro e w' ⟨rfl, hd⟩
 exact ⟨rfl, hd⟩

end Go.Proofs.YtjeamaahhpbbkaaDoor.PAll
