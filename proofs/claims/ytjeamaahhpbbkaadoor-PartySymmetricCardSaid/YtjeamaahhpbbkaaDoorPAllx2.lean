-- PRINTED by a session's own changed print
import Derived.Test.YtjeamaahhpbbkaaDoorPAllx0
import Derived.Test.YtjeamaahhpbbkaaDoorPAllx1
namespace Go.Proofs.YtjeamaahhpbbkaaDoor.PAll
open Go.RowKit Go.Proofs.YtjeamaahhpbbkaaDoorW.PrintWords Go.Proofs.YtjeamaahhpbbkaaDoorW.PrintLast
set_option linter.unusedVariables false
set_option linter.unusedSimpArgs false

/-! ### insolvencyref1_order: function 68 -/
def insolvencyref1_order.l0 : Nat → List Int → List Int → Int → Option (Int)
 | 0, _, _, _ => none
 | k + 1, x0, x1, x5 => if x5 ≥ 0 then (if 0 ≤ x5 then (if x5 < (x0.length : Int) then (if x5 < (x1.length : Int) then (if (rd x0 x5) = (rd x1 x5) then (insolvencyref1_order.l0 k x0 x1 (wrap64 (x5 - 1))) else (if (rd x0 x5) < (rd x1 x5) then (some (-1)) else (some 1))) else (none)) else (none)) else (none)) else (some 0)
def insolvencyref1_order.f (k : Nat) (l0 : List Int) (l1 : List Int) : Option (Int) := if (l0.length : Int) = (l1.length : Int) then (insolvencyref1_order.l0 k l0 l1 (wrap64 ((l0.length : Int) - 1))) else (if (l0.length : Int) < (l1.length : Int) then (some (-1)) else (some 1))
theorem insolvencyref1_order.mono_l : ∀ k, (∀ y0 y1 y2, LeO (insolvencyref1_order.l0 k y0 y1 y2) (insolvencyref1_order.l0 (k + 1) y0 y1 y2))
 | 0 => fun _ _ _ r h => by simp [insolvencyref1_order.l0] at h
 | k + 1 => by
  have ih0 := insolvencyref1_order.mono_l k
  ·intro y0 y1 y2
   unfold insolvencyref1_order.l0
   repeat' first
   | (with_reducible exact ih0 _ _ _)
   | (with_reducible exact LeO.refl _)
   | (with_reducible exact LeO.none _)
   | (with_reducible refine LeO.ite ?_ ?_)
   | (with_reducible refine LeO.bind ?_ (fun _ => ?_))
   | exact LeO.none _
   | refine LeO.ite ?_ ?_
   | refine LeO.bind ?_ (fun _ => ?_)
theorem insolvencyref1_order.mono : ∀ a0 a1 k, LeO (insolvencyref1_order.f k a0 a1) (insolvencyref1_order.f (k + 1) a0 a1) := by
 intro a0 a1 k
 have ih0 := insolvencyref1_order.mono_l k
 unfold insolvencyref1_order.f
 repeat' first
   | (with_reducible exact ih0 _ _ _)
   | (with_reducible exact LeO.refl _)
   | (with_reducible exact LeO.none _)
   | (with_reducible refine LeO.ite ?_ ?_)
   | (with_reducible refine LeO.bind ?_ (fun _ => ?_))
   | exact LeO.none _
   | refine LeO.ite ?_ ?_
   | refine LeO.bind ?_ (fun _ => ?_)
set_option maxHeartbeats 8000000 in
set_option maxRecDepth 100000 in
theorem insolvencyref1_order.calls (k : Nat) (A0 : Option Addr) (c0 : Nat) (l0 : List Int) (A1 : Option Addr) (c1 : Nat) (l1 : List Int) (r : Int) (w : World) (hr0 : Kd.C (Kd.int .u32) w A0 l0.length l0) (hc0 : l0.length ≤ c0) (hr1 : Kd.C (Kd.int .u32) w A1 l1.length l1) (hc1 : l1.length ≤ c1) (h : insolvencyref1_order.f k l0 l1 = some r) :
  Calls Tryd.prog 68 #[.slice A0 l0.length c0, .slice A1 l1.length c1] w fun e w' => e = .returned (.int .i64 r) ∧ Drawn0 w w' := by
 have HR0 := Aside0.mk hr0
 have HC0 := Aside0.mk hc0
 clear hr0 hc0
 have HR1 := Aside0.mk hr1
 have HC1 := Aside0.mk hc1
 clear hr1 hc1
 have H : (if (l0.length : Int) = (l1.length : Int) then (insolvencyref1_order.l0 k l0 l1 (wrap64 ((l0.length : Int) - 1))) else (if (l0.length : Int) < (l1.length : Int) then (some (-1)) else (some 1))) = some r := h
 clear h
 by_cases c3 : (l0.length : Int) = (l1.length : Int)
 ·rw [if_pos c3] at H
  have c3b0 : ((l0.length : Int) == (l1.length : Int)) = true := beq_iff_eq.mpr c3
  have c3b1 : ((l0.length : Int) != (l1.length : Int)) = false := bne_eq_false_iff_eq.mpr c3
  have c3b2 : (l0.length == l1.length) = true := by first | simpa using c3 | (simp at c3 ⊢; omega)
  clear c3
  have H' := Aside0.mk H
  clear H
  go_enter Tryd.func68, Tryd.ntmps68
  go_wp2
  repeat (go_quiet (fail); try go_wp2)
  go_loopg [5] k (fun kq v5 w' => ∃ (x5_1 : Int), v5 = .int .i64 x5_1 ∧ Aside0 (insolvencyref1_order.l0 kq l0 l1 x5_1 = some r) ∧ Aside0 (kq ≤ k) ∧ Drawn0 w w')
  case atStart => exact ⟨(wrap64 ((l0.length : Int) - 1)), (by first | rfl | (simp; done) | (simp [*]; done)), H', ⟨Nat.le_refl _⟩, by repeat (first | exact Drawn0.refl _ | apply Drawn0.step)⟩
  case round =>
   clear H'
   (try clear c1); (try clear p2); (try clear c3); (try clear c3b0); (try clear c3b1); (try clear c3b2)
   obtain ⟨x5_1, rfl, HA, HK1, ⟨m1, rfl⟩⟩ := hrel
   cases gk with
   | zero => exact absurd HA.out (by simp [insolvencyref1_order.l0])
   | succ k1 =>
    have H := HA.out
    clear HA
    simp only [insolvencyref1_order.l0] at H
    by_cases c4 : x5_1 ≥ 0
    ·rw [if_pos c4] at H
     have c4b0 : decide (0 ≤ x5_1) = true := decide_eq_true c4
     clear c4
     by_cases c5 : 0 ≤ x5_1
     ·rw [if_pos c5] at H
      have c5b0 := decide_eq_true c5
      clear c5
      by_cases c6 : x5_1 < (l0.length : Int)
      ·rw [if_pos c6] at H
       have c6b0 := decide_eq_true c6
       clear c6
       by_cases c7 : x5_1 < (l1.length : Int)
       ·rw [if_pos c7] at H
        have c7b0 := decide_eq_true c7
        clear c7
        by_cases c8 : (rd l0 x5_1) = (rd l1 x5_1)
        ·rw [if_pos c8] at H
         have c8b0 : ((rd l0 x5_1) == (rd l1 x5_1)) = true := beq_iff_eq.mpr c8
         have c8b1 : ((rd l0 x5_1) != (rd l1 x5_1)) = false := bne_eq_false_iff_eq.mpr c8
         clear c8
         have H' := Aside0.mk H
         clear H
         have p132 : 0 ≤ (x5_1 : Int) := oD
         have q132 : x5_1 < (l0.length : Int) := oD
         obtain ⟨ad132, e132, hx132_0⟩ := Kd.at_int HR0.out x5_1 p132 q132
         cases e132
         replace p132 := eq_true p132
         replace q132 := eq_true q132
         have p133 : 0 ≤ (x5_1 : Int) := oD
         have q133 : x5_1 < (l1.length : Int) := oD
         obtain ⟨ad133, e133, hx133_0⟩ := Kd.at_int HR1.out x5_1 p133 q133
         cases e133
         replace p133 := eq_true p133
         replace q133 := eq_true q133
         go_wp2
         repeat (go_quiet (fail); try go_wp2)
         go_roundg k1
         case measure => have := HK1.out; omega
         case rel => exact ⟨(wrap64 (x5_1 - 1)), (by first | rfl | (simp; done) | (simp [*]; done)), H', ⟨by have := HK1.out; omega⟩, by repeat (first | exact Drawn0.refl _ | apply Drawn0.step)⟩
        ·rw [if_neg c8] at H
         have c8b0 : ((rd l0 x5_1) == (rd l1 x5_1)) = false := beq_eq_false_iff_ne.mpr c8
         have c8b1 : ((rd l0 x5_1) != (rd l1 x5_1)) = true := bne_iff_ne.mpr c8
         by_cases c9 : (rd l0 x5_1) < (rd l1 x5_1)
         ·rw [if_pos c9] at H
          have c9b0 := decide_eq_true c9
          clear c9
          obtain rfl := Option.some.inj H
          have p132 : 0 ≤ (x5_1 : Int) := oD
          have q132 : x5_1 < (l0.length : Int) := oD
          obtain ⟨ad132, e132, hx132_0⟩ := Kd.at_int HR0.out x5_1 p132 q132
          cases e132
          replace p132 := eq_true p132
          replace q132 := eq_true q132
          have p133 : 0 ≤ (x5_1 : Int) := oD
          have q133 : x5_1 < (l1.length : Int) := oD
          obtain ⟨ad133, e133, hx133_0⟩ := Kd.at_int HR1.out x5_1 p133 q133
          cases e133
          replace p133 := eq_true p133
          replace q133 := eq_true q133
          have p134 : 0 ≤ (x5_1 : Int) := oD
          have q134 : x5_1 < (l0.length : Int) := oD
          obtain ⟨ad134, e134, hx134_0⟩ := Kd.at_int HR0.out x5_1 p134 q134
          obtain rfl : ad132 = ad134 := (by injection e134)
          replace p134 := eq_true p134
          replace q134 := eq_true q134
          have p135 : 0 ≤ (x5_1 : Int) := oD
          have q135 : x5_1 < (l1.length : Int) := oD
          obtain ⟨ad135, e135, hx135_0⟩ := Kd.at_int HR1.out x5_1 p135 q135
          obtain rfl : ad133 = ad135 := (by injection e135)
          replace p135 := eq_true p135
          replace q135 := eq_true q135
          go_wp2
          repeat (go_quiet (fail); try go_wp2)
          go_ret
          exact ⟨by first | rfl | (simp; done) | (simp [*]; done), by repeat (first | exact Drawn0.refl _ | apply Drawn0.step)⟩
         ·rw [if_neg c9] at H
          have c9b0 := decide_eq_false c9
          clear c9
          obtain rfl := Option.some.inj H
          have p132 : 0 ≤ (x5_1 : Int) := oD
          have q132 : x5_1 < (l0.length : Int) := oD
          obtain ⟨ad132, e132, hx132_0⟩ := Kd.at_int HR0.out x5_1 p132 q132
          cases e132
          replace p132 := eq_true p132
          replace q132 := eq_true q132
          have p133 : 0 ≤ (x5_1 : Int) := oD
          have q133 : x5_1 < (l1.length : Int) := oD
          obtain ⟨ad133, e133, hx133_0⟩ := Kd.at_int HR1.out x5_1 p133 q133
          cases e133
          replace p133 := eq_true p133
          replace q133 := eq_true q133
          have p134 : 0 ≤ (x5_1 : Int) := oD
          have q134 : x5_1 < (l0.length : Int) := oD
          obtain ⟨ad134, e134, hx134_0⟩ := Kd.at_int HR0.out x5_1 p134 q134
          obtain rfl : ad132 = ad134 := (by injection e134)
          replace p134 := eq_true p134
          replace q134 := eq_true q134
          have p135 : 0 ≤ (x5_1 : Int) := oD
          have q135 : x5_1 < (l1.length : Int) := oD
          obtain ⟨ad135, e135, hx135_0⟩ := Kd.at_int HR1.out x5_1 p135 q135
          obtain rfl : ad133 = ad135 := (by injection e135)
          replace p135 := eq_true p135
          replace q135 := eq_true q135
          go_wp2
          repeat (go_quiet (fail); try go_wp2)
          go_ret
          exact ⟨by first | rfl | (simp; done) | (simp [*]; done), by repeat (first | exact Drawn0.refl _ | apply Drawn0.step)⟩
       ·rw [if_neg c7] at H
        exact absurd H (by simp)
      ·rw [if_neg c6] at H
       exact absurd H (by simp)
     ·rw [if_neg c5] at H
      exact absurd H (by simp)
    ·rw [if_neg c4] at H
     have c4b0 : decide (0 ≤ x5_1) = false := decide_eq_false c4
     clear c4
     obtain rfl := Option.some.inj H
     go_wp2
     repeat (go_quiet (fail); try go_wp2)
     go_ret
     exact ⟨by first | rfl | (simp; done) | (simp [*]; done), by repeat (first | exact Drawn0.refl _ | apply Drawn0.step)⟩
 ·rw [if_neg c3] at H
  have c3b0 : ((l0.length : Int) == (l1.length : Int)) = false := beq_eq_false_iff_ne.mpr c3
  have c3b1 : ((l0.length : Int) != (l1.length : Int)) = true := bne_iff_ne.mpr c3
  have c3b2 : (l0.length == l1.length) = false := by first | simpa using c3 | (simp at c3 ⊢; omega)
  by_cases c10 : (l0.length : Int) < (l1.length : Int)
  ·rw [if_pos c10] at H
   have c10b0 := decide_eq_true c10
   have c10b1 : decide (l0.length < l1.length) = true := decide_eq_true (Int.ofNat_lt.mp c10)
   clear c10
   obtain rfl := Option.some.inj H
   go_enter Tryd.func68, Tryd.ntmps68
   go_wp2
   repeat (go_quiet (fail); try go_wp2)
   go_ret
   exact ⟨by first | rfl | (simp; done) | (simp [*]; done), by repeat (first | exact Drawn0.refl _ | apply Drawn0.step)⟩
  ·rw [if_neg c10] at H
   have c10b0 := decide_eq_false c10
   have c10b1 : decide (l0.length < l1.length) = false := decide_eq_false (fun h => c10 (Int.ofNat_lt.mpr h))
   clear c10
   obtain rfl := Option.some.inj H
   go_enter Tryd.func68, Tryd.ntmps68
   go_wp2
   repeat (go_quiet (fail); try go_wp2)
   go_ret
   exact ⟨by first | rfl | (simp; done) | (simp [*]; done), by repeat (first | exact Drawn0.refl _ | apply Drawn0.step)⟩

/-! ### insolvencyref1_short: function 96 -/
def insolvencyref1_short.l0 : Nat → List Int → Int → List Int → Int → Int → Option (List Int × Int)
 | 0, _, _, _, _, _ => none
 | k + 1, x0, x1, x6, x7, x8 => if x8 ≥ 0 then (if 0 ≤ x8 then (if x8 < (x0.length : Int) then (if (IntKind.u64.wrap (x1)) = 0 then (none) else (if x8 < (x6.length : Int) then (insolvencyref1_short.l0 k x0 x1 (x6.set (x8 : Int).toNat ((IntKind.u64.wrap (Int.tdiv (Go.bits .or .u64 (IntKind.u64.wrap (x7 * 4294967296)) (IntKind.u64.wrap (rd x0 x8))) (IntKind.u64.wrap (x1)))) % 4294967296)) (Int.tmod (Go.bits .or .u64 (IntKind.u64.wrap (x7 * 4294967296)) (IntKind.u64.wrap (rd x0 x8))) (IntKind.u64.wrap (x1))) (wrap64 (x8 - 1))) else (none))) else (none)) else (none)) else ((insolvencyref1_strip.f k x6).bind fun t141 => (some (t141, (x7) % 4294967296)))
def insolvencyref1_short.f (k : Nat) (l0 : List Int) (a1 : Int) : Option (List Int × Int) := if 0 ≤ (l0.length : Int) then (if ((l0.length : Int) : Int).toNat ≤ 70368744177664 then (insolvencyref1_short.l0 k l0 a1 (List.replicate ((l0.length : Int) : Int).toNat 0) 0 (wrap64 ((l0.length : Int) - 1))) else (none)) else (none)
theorem insolvencyref1_short.mono_l : ∀ k, (∀ y0 y1 y2 y3 y4, LeO (insolvencyref1_short.l0 k y0 y1 y2 y3 y4) (insolvencyref1_short.l0 (k + 1) y0 y1 y2 y3 y4))
 | 0 => fun _ _ _ _ _ r h => by simp [insolvencyref1_short.l0] at h
 | k + 1 => by
  have ih0 := insolvencyref1_short.mono_l k
  ·intro y0 y1 y2 y3 y4
   unfold insolvencyref1_short.l0
   repeat' first
   | (with_reducible exact ih0 _ _ _ _ _)
   | (with_reducible exact insolvencyref1_strip.mono _ _)
   | (with_reducible exact LeO.refl _)
   | (with_reducible exact LeO.none _)
   | (with_reducible refine LeO.ite ?_ ?_)
   | (with_reducible refine LeO.bind ?_ (fun _ => ?_))
   | exact LeO.none _
   | refine LeO.ite ?_ ?_
   | refine LeO.bind ?_ (fun _ => ?_)
theorem insolvencyref1_short.mono : ∀ a0 a1 k, LeO (insolvencyref1_short.f k a0 a1) (insolvencyref1_short.f (k + 1) a0 a1) := by
 intro a0 a1 k
 have ih0 := insolvencyref1_short.mono_l k
 unfold insolvencyref1_short.f
 repeat' first
   | (with_reducible exact ih0 _ _ _ _ _)
   | (with_reducible exact insolvencyref1_strip.mono _ _)
   | (with_reducible exact LeO.refl _)
   | (with_reducible exact LeO.none _)
   | (with_reducible refine LeO.ite ?_ ?_)
   | (with_reducible refine LeO.bind ?_ (fun _ => ?_))
   | exact LeO.none _
   | refine LeO.ite ?_ ?_
   | refine LeO.bind ?_ (fun _ => ?_)
set_option maxHeartbeats 8000000 in
set_option maxRecDepth 100000 in
theorem insolvencyref1_short.calls (k : Nat) (A0 : Option Addr) (c0 : Nat) (l0 : List Int) (a1 : Int) (r1 : List Int) (r2 : Int) (w : World) (hr0 : Kd.C (Kd.int .u32) w A0 l0.length l0) (hc0 : l0.length ≤ c0) (h : insolvencyref1_short.f k l0 a1 = some (r1, r2)) :
  Calls Tryd.prog 96 #[.slice A0 l0.length c0, .int .u32 a1] w fun e w' => ∃ v0_ : Value, e = .returned (.tuple #[v0_, .int .u32 r2]) ∧ Kd.V (Kd.int .u32) 86 w' w.heap.size (fun k_ => (w.heap.size ≤ k_)) v0_ r1 ∧ Below w.heap.size w w' := by
 have HR0 := Aside0.mk hr0
 have HC0 := Aside0.mk hc0
 clear hr0 hc0
 have HB := aM (Below.refl w.heap.size w)
 have H : (if 0 ≤ (l0.length : Int) then (if ((l0.length : Int) : Int).toNat ≤ 70368744177664 then (insolvencyref1_short.l0 k l0 a1 (List.replicate ((l0.length : Int) : Int).toNat 0) 0 (wrap64 ((l0.length : Int) - 1))) else (none)) else (none)) = some (r1, r2) := h
 clear h
 by_cases c3 : 0 ≤ (l0.length : Int)
 ·rw [if_pos c3] at H
  have c3b0 := eq_true c3
  have c3b1 := decide_eq_true c3
  clear c3
  by_cases c4 : ((l0.length : Int) : Int).toNat ≤ 70368744177664
  ·rw [if_pos c4] at H
   have c4b0 := eq_true c4
   have c4b1 := decide_eq_true c4
   clear c4
   obtain ⟨y136, hy136⟩ : ∃ y_ : List Int, y_ = (List.replicate ((l0.length : Int) : Int).toNat 0) := ⟨_, rfl⟩
   replace H : (insolvencyref1_short.l0 k l0 a1 y136 0 (wrap64 ((l0.length : Int) - 1))) = some (r1, r2) := by first | (rw [hy136]; with_reducible exact H) | (have H2_ := (Option.bind_some _ _).symm.trans H; rw [hy136]; with_reducible exact H2_) | (have H2_ := (Option.bind_some _ _).symm.trans H; with_reducible exact H2_) | with_reducible exact H | (rw [hy136]; exact H) | exact H
   have Ny136 := Aside0.mk hy136
   clear hy136
   have H' := Aside0.mk H
   clear H
   go_enter Tryd.func96, Tryd.ntmps96
   go_wp2_with (first | ((with_reducible refine gate_dst (N := 11) rfl ?_); refine Kd.R_make (Kd.int .u32) _ 86 rfl (N := 11) rfl 83 _ _ rfl (l0.length : Int) rfl rfl Tryd.underlying83 (.int .u32 0) 4 info86 rfl (by decide) (by omega) 0 (ok := fun _ => True) (okp := fun _ => True) rfl (fun _ hk => hk) trivial (oD) (Nat.le_trans (Nat.mul_le_mul_right _ (oD : (l0.length : Int).toNat ≤ 70368744177664)) (by omega)) (Below.refl _ _) (Nat.le_refl _) ?_; intro v137 w5 ho6 hb hg_ hnew_; clear hg_ hnew_; (first | rw [← Ny136.out] at ho6 | (simp only [Int.reduceToNat] at ho6; rw [← Ny136.out] at ho6)); have n0_ := aM (Kd.R_lower (Kd.R_newM (M := fun k_ => (w.heap.size ≤ k_)) ho6 (below_size (bU HB.out)) (fun k_ h_ => h_)) (below_size (bU HB.out))); have n1_ := aM (below_step (bU HB.out) hb); clear HB; have HO138 := n0_; have HB := n1_; clear n0_ n1_; clear hb ho6))
   go_loopg [7, 8] k (fun kq v7 v8 w' => ∃ (x6_1 : List Int) (x7_1 : Int) (x8_1 : Int), v7 = .int .u64 x7_1 ∧ v8 = .int .i64 x8_1 ∧ Aside0 (insolvencyref1_short.l0 kq l0 a1 x6_1 x7_1 x8_1 = some (r1, r2)) ∧ Aside0 (kq ≤ k) ∧ Aside0 (Kd.R (Kd.int .u32) 86 w' w.heap.size (fun k_ => (w.heap.size ≤ k_)) v137 x6_1) ∧ Aside0 (Below w.heap.size w w'))
   case atStart => exact ⟨(y136), (0), (wrap64 ((l0.length : Int) - 1)), (by first | rfl | (simp; done) | (simp [*]; done)), (by first | rfl | (simp; done) | (simp [*]; done)), H', ⟨Nat.le_refl _⟩, ⟨Kd.R_up (Kd.R_mono HO138.out (fun _ hk => hk.1))⟩, ⟨bU HB.out⟩⟩
   case round =>
    clear H'
    (try clear p2); (try clear c3); (try clear c3b0); (try clear c3b1); (try clear c4); (try clear c4b0); (try clear c4b1); (try clear p6)
    obtain ⟨x6_1, x7_1, x8_1, rfl, rfl, HA, HK1, HO_6, HB⟩ := hrel
    cases gk with
    | zero => exact absurd HA.out (by simp [insolvencyref1_short.l0])
    | succ k1 =>
     have H := HA.out
     clear HA
     simp only [insolvencyref1_short.l0] at H
     by_cases c7 : x8_1 ≥ 0
     ·rw [if_pos c7] at H
      have c7b0 : decide (0 ≤ x8_1) = true := decide_eq_true c7
      clear c7
      by_cases c8 : 0 ≤ x8_1
      ·rw [if_pos c8] at H
       have c8b0 := decide_eq_true c8
       clear c8
       by_cases c9 : x8_1 < (l0.length : Int)
       ·rw [if_pos c9] at H
        have c9b0 := decide_eq_true c9
        clear c9
        by_cases c10 : (IntKind.u64.wrap (a1)) = 0
        ·rw [if_pos c10] at H
         exact absurd H (by simp)
        ·rw [if_neg c10] at H
         have c10b0 : ((IntKind.u64.wrap (a1)) == 0) = false := beq_eq_false_iff_ne.mpr c10
         have c10b1 : ((IntKind.u64.wrap (a1)) != 0) = true := bne_iff_ne.mpr c10
         by_cases c11 : x8_1 < (x6_1.length : Int)
         ·rw [if_pos c11] at H
          have c11b0 := decide_eq_true c11
          clear c11
          obtain ⟨y140, hy140⟩ : ∃ y_ : List Int, y_ = (x6_1.set (x8_1 : Int).toNat ((IntKind.u64.wrap (Int.tdiv (Go.bits .or .u64 (IntKind.u64.wrap (x7_1 * 4294967296)) (IntKind.u64.wrap (rd l0 x8_1))) (IntKind.u64.wrap (a1)))) % 4294967296)) := ⟨_, rfl⟩
          replace H : (insolvencyref1_short.l0 k1 l0 a1 y140 (Int.tmod (Go.bits .or .u64 (IntKind.u64.wrap (x7_1 * 4294967296)) (IntKind.u64.wrap (rd l0 x8_1))) (IntKind.u64.wrap (a1))) (wrap64 (x8_1 - 1))) = some (r1, r2) := by first | (rw [hy140]; with_reducible exact H) | (have H2_ := (Option.bind_some _ _).symm.trans H; rw [hy140]; with_reducible exact H2_) | (have H2_ := (Option.bind_some _ _).symm.trans H; with_reducible exact H2_) | with_reducible exact H | (rw [hy140]; exact H) | exact H
          have Ny140 := Aside0.mk hy140
          clear hy140
          have H' := Aside0.mk H
          clear H
          have p139 : 0 ≤ (x8_1 : Int) := oD
          have q139 : x8_1 < (l0.length : Int) := oD
          obtain ⟨ad139, e139, hx139_0⟩ := Kd.at_int HR0.out x8_1 p139 q139
          cases e139
          replace hx139_0 := (HB.out.cell (World.block_lt_of_cell? w _ hx139_0)).trans hx139_0
          replace p139 := eq_true p139
          replace q139 := eq_true q139
          have p12 : 0 ≤ (x8_1 : Int) := oD
          have q12 : (x8_1 : Int) < ((x6_1.length : Int) : Int) := oD
          obtain ⟨go12, co12, eo12, gb12, gl12, cl12, HG12⟩ := Kd.R_form HO_6.out (by omega)
          (first | cases eo12 | (injection eo12 with ea_ en_ ec_; (first | subst ea_ | (injection ea_ with ea_; subst ea_)); subst ec_; clear en_))
          have GB12 := Aside0.mk gb12
          have GG12 := Aside0.mk HG12
          clear gb12 gl12 HG12
          obtain ⟨hx12_0, hf12_0⟩ := Kd.R_celln 0 HO_6.out (x8_1 : Int) p12 q12
          replace p12 := eq_true p12
          replace q12 := eq_true q12
          have HP13 := Kd.R_putg HO_6.out (x8_1 : Int) ((IntKind.u64.wrap (Int.tdiv (Go.bits .or .u64 (IntKind.u64.wrap (x7_1 * 4294967296)) (IntKind.u64.wrap (rd l0 x8_1))) (IntKind.u64.wrap (a1)))) % 4294967296)
          go_wp2_with (first | ((with_reducible refine gate_store (t := 86) (p := 34) rfl ?_); refine store_event (t := 86) (p := 34) (v := ?vo_w14) (w1 := (wr.setCell ⟨go12, (x8_1 : Int).toNat, none⟩ (.int .u32 ((IntKind.u64.wrap (Int.tdiv (Go.bits .or .u64 (IntKind.u64.wrap (x7_1 * 4294967296)) (IntKind.u64.wrap (rd l0 x8_1))) (IntKind.u64.wrap (a1)))) % 4294967296)))) ?hg ?ho ?hn ?hr ?_; (case ho => rfl); (case hg => rfl); (case hn => rfl); (case hr => first | (go_simp; done) | (go_simp; rfl)); intro w14 hw; have hg : wr.grownBy w14 (some go12) := (by rw [hw]; exact HP13.2); have hp_ : Kd.R (Kd.int .u32) 86 w14 w.heap.size (fun k_ => (w.heap.size ≤ k_)) (.slice (some ⟨go12, 0, none⟩) x6_1.length co12) y140 := (by rw [hw, Ny140.out]; exact HP13.1); clear HP13; have n0_ := aM (hp_); have n1_ := aM ((by rw [hw]; exact below_set (HB.out) GB12.out : Below w.heap.size w w14)); clear HO_6; clear HB; have HO_6 := n0_; have HB := n1_; clear n0_ n1_; clear hg hw hp_))
          go_roundg k1
          case measure => have := HK1.out; omega
          case rel => exact ⟨(y140), (Int.tmod (Go.bits .or .u64 (IntKind.u64.wrap (x7_1 * 4294967296)) (IntKind.u64.wrap (rd l0 x8_1))) (IntKind.u64.wrap (a1))), (wrap64 (x8_1 - 1)), (by first | rfl | (simp; done) | (simp [*]; done)), (by first | rfl | (simp; done) | (simp [*]; done)), H', ⟨by have := HK1.out; omega⟩, ⟨Kd.R_up HO_6.out⟩, ⟨bU HB.out⟩⟩
         ·rw [if_neg c11] at H
          exact absurd H (by simp)
       ·rw [if_neg c9] at H
        exact absurd H (by simp)
      ·rw [if_neg c8] at H
       exact absurd H (by simp)
     ·rw [if_neg c7] at H
      have c7b0 : decide (0 ≤ x8_1) = false := decide_eq_false c7
      clear c7
      replace H := bE H
      obtain ⟨t141, A150, H⟩ := H
      replace H : (some (t141, (x7_1) % 4294967296)) = some (r1, r2) := H
      have A15 := Aside0.mk A150
      clear A150
      simp only [Option.some.injEq, Prod.mk.injEq] at H
      obtain ⟨rfl, rfl⟩ := H
      obtain ⟨Ao16, co16, eo16⟩ := Kd.R_slice HO_6.out
      subst eo16
      go_wp2_with (first | ((with_reducible refine gate_callee (f := 81) rfl ?_); refine goesLq (some 40) rfl rfl Tryd.func81 #[.slice Ao16 x6_1.length co16] rfl ?_; (with_reducible refine (insolvencyref1_strip.calls k1 (fun k_ => some k_ = (.slice Ao16 x6_1.length co16 : Value).ownBlock) _ _ x6_1 t141 _ ?side1 A15.out).mono ?_); (case side1 => exact Kd.R_V (Kd.R_tight rfl (HO_6.out))); rintro e w17 ⟨v142, rfl, ho0, hb⟩; refine ⟨_, rfl, ?_⟩; have n0_ := aM (Kd.R_below (Kd.R_up HO_6.out) hb); have n1_ := aM (Kd.V_lower (Kd.V_mono (ok' := fun k_ => (w.heap.size ≤ k_)) ho0 (fun k_ hk_ => Or.elim hk_ (fun hs_ => ((HO_6.out).1 k_ hs_.symm)) (fun hn_ => (Nat.le_trans (below_size (bU HB.out)) hn_)))) (below_size (bU HB.out))); have n2_ := aM (below_step (bU HB.out) hb); clear HO_6; clear HB; have HO_6 := n0_; have HO143 := n1_; have HB := n2_; clear n0_ n1_ n2_; (try clear hb); (try clear hb2); (try clear hk); (try clear hi); (try clear ho0)))
      go_ret2
      exact ⟨_, by first | rfl | (simp [errW_none, errW_some] <;> rfl) | (simp [*, errW_none, errW_some] <;> rfl), Kd.V_up HO143.out, bU HB.out⟩
  ·rw [if_neg c4] at H
   exact absurd H (by simp)
 ·rw [if_neg c3] at H
  exact absurd H (by simp)

-- NOT PRINTED: function 102 (insolvencyref1_shifted)

-- NOT PRINTED: function 97 (insolvencyref1_long)

/-! ### insolvencyref1_divide: function 83 -/
def insolvencyref1_divide.f (k : Nat) (l0 : List Int) (l1 : List Int) : Option (List Int × List Int) := (insolvencyref1_order.f k l0 l1).bind fun t144 => (if t144 < 0 then (some (([] : List Int), l0)) else (if (l1.length : Int) = 1 then (if 0 < (l1.length : Int) then ((insolvencyref1_short.f k l0 (rd l1 0)).bind fun bt146 => ((insolvencyref1_strip.f k (([bt146.2] : List Int))).bind fun t153 => (some (bt146.1, t153)))) else (none)) else (none)))
theorem insolvencyref1_divide.mono : ∀ a0 a1 k, LeO (insolvencyref1_divide.f k a0 a1) (insolvencyref1_divide.f (k + 1) a0 a1) := by
 intro a0 a1 k
 unfold insolvencyref1_divide.f
 repeat' first
   | (with_reducible exact insolvencyref1_order.mono _ _ _)
   | (with_reducible exact insolvencyref1_short.mono _ _ _)
   | (with_reducible exact insolvencyref1_strip.mono _ _)
   | (with_reducible exact LeO.refl _)
   | (with_reducible exact LeO.none _)
   | (with_reducible refine LeO.ite ?_ ?_)
   | (with_reducible refine LeO.bind ?_ (fun _ => ?_))
   | exact LeO.none _
   | refine LeO.ite ?_ ?_
   | refine LeO.bind ?_ (fun _ => ?_)
set_option maxHeartbeats 8000000 in
set_option maxRecDepth 100000 in
theorem insolvencyref1_divide.calls (k : Nat) (P0_ : Nat → Prop) (A0 : Option Addr) (c0 : Nat) (l0 : List Int) (A1 : Option Addr) (c1 : Nat) (l1 : List Int) (r1 : List Int) (r2 : List Int) (w : World) (hs0 : Kd.V (Kd.int .u32) 86 w w.heap.size (fun k_ => P0_ k_) (.slice A0 l0.length c0) l0) (hr1 : Kd.C (Kd.int .u32) w A1 l1.length l1) (hc1 : l1.length ≤ c1) (h : insolvencyref1_divide.f k l0 l1 = some (r1, r2)) :
  Calls Tryd.prog 83 #[.slice A0 l0.length c0, .slice A1 l1.length c1] w fun e w' => ∃ v0_ v1_ : Value, e = .returned (.tuple #[v0_, v1_]) ∧ Kd.V (Kd.int .u32) 86 w' w.heap.size (fun k_ => (P0_ k_ ∨ w.heap.size ≤ k_)) v0_ r1 ∧ Kd.V (Kd.int .u32) 86 w' w.heap.size (fun k_ => (P0_ k_ ∨ w.heap.size ≤ k_)) v1_ r2 ∧ Below w.heap.size w w' := by
 have HO0 := aM (show Kd.V (Kd.int .u32) 86 w w.heap.size (fun k_ => (P0_ k_ ∨ w.heap.size ≤ k_)) (.slice A0 l0.length c0) l0 from Kd.V_mono hs0 (fun k_ hk => .inl hk))
 have HR1 := Aside0.mk hr1
 have HC1 := Aside0.mk hc1
 clear hr1 hc1
 have HB := aM (Below.refl w.heap.size w)
 have H : ((insolvencyref1_order.f k l0 l1).bind fun t144 => (if t144 < 0 then (some (([] : List Int), l0)) else (if (l1.length : Int) = 1 then (if 0 < (l1.length : Int) then ((insolvencyref1_short.f k l0 (rd l1 0)).bind fun bt146 => ((insolvencyref1_strip.f k (([bt146.2] : List Int))).bind fun t153 => (some (bt146.1, t153)))) else (none)) else (none)))) = some (r1, r2) := h
 clear h
 replace H := bE H
 obtain ⟨t144, A30, H⟩ := H
 replace H : (if t144 < 0 then (some (([] : List Int), l0)) else (if (l1.length : Int) = 1 then (if 0 < (l1.length : Int) then ((insolvencyref1_short.f k l0 (rd l1 0)).bind fun bt146 => ((insolvencyref1_strip.f k (([bt146.2] : List Int))).bind fun t153 => (some (bt146.1, t153)))) else (none)) else (none))) = some (r1, r2) := H
 have A3 := Aside0.mk A30
 clear A30
 by_cases c4 : t144 < 0
 ·rw [if_pos c4] at H
  have c4b0 := decide_eq_true c4
  clear c4
  simp only [Option.some.injEq, Prod.mk.injEq] at H
  obtain ⟨rfl, rfl⟩ := H
  go_enter Tryd.func83, Tryd.ntmps83
  go_wp2_with (first | ((with_reducible refine gate_callee (f := 68) rfl ?_); refine goesLq (some 10) rfl rfl Tryd.func68 #[.slice A0 l0.length c0, .slice A1 l1.length c1] rfl ?_; (with_reducible refine (insolvencyref1_order.calls k _ _ l0 _ _ l1 t144 _ ?side1 ?side2 ?side3 ?side4 A3.out).mono ?_); (case side1 => exact Kd.C_up (Kd.V_reads' HO0.out).2.2); (case side2 => exact (Kd.V_reads' HO0.out).2.1); (case side3 => repeat (first | exact HR1.out | (with_reducible refine Kd.C_alloc ?_ _) | (with_reducible refine Kd.C_drewN ?_ _) | (with_reducible refine Kd.C_drew ?_))); (case side4 => exact HC1.out); rintro e w' ⟨rfl, ⟨nd, rfl⟩⟩; refine ⟨_, rfl, ?_⟩))
  go_ret2
  exact ⟨.slice none 0 0, _, by first | rfl | (simp [errW_none, errW_some] <;> rfl) | (simp [*, errW_none, errW_some] <;> rfl), Kd.V_mono (Kd.R_V (Kd.R_nil _ _ _ w.heap.size (fun k_ => w.heap.size ≤ k_))) (fun k_ hk => .inr hk), Kd.V_up HO0.out, bU HB.out⟩
 ·rw [if_neg c4] at H
  have c4b0 := decide_eq_false c4
  clear c4
  by_cases c5 : (l1.length : Int) = 1
  ·rw [if_pos c5] at H
   have c5b0 : ((l1.length : Int) == 1) = true := beq_iff_eq.mpr c5
   have c5b1 : ((l1.length : Int) != 1) = false := bne_eq_false_iff_eq.mpr c5
   clear c5
   by_cases c6 : 0 < (l1.length : Int)
   ·rw [if_pos c6] at H
    have c6b0 := decide_eq_true c6
    have c6b1 : decide (0 < l1.length) = true := decide_eq_true (by omega)
    clear c6
    replace H := bE H
    obtain ⟨⟨t146, t149⟩, A70, H⟩ := H
    replace H : ((insolvencyref1_strip.f k (([t149] : List Int))).bind fun t153 => (some (t146, t153))) = some (r1, r2) := H
    have A7 := Aside0.mk A70
    clear A70
    obtain ⟨y150, hy150⟩ : ∃ y_ : List Int, y_ = (([t149] : List Int)) := ⟨_, rfl⟩
    replace H : ((insolvencyref1_strip.f k y150).bind fun t153 => (some (t146, t153))) = some (r1, r2) := by first | (rw [hy150]; with_reducible exact H) | (have H2_ := (Option.bind_some _ _).symm.trans H; rw [hy150]; with_reducible exact H2_) | (have H2_ := (Option.bind_some _ _).symm.trans H; with_reducible exact H2_) | with_reducible exact H | (rw [hy150]; exact H) | exact H
    have Ny150 := Aside0.mk hy150
    clear hy150
    replace H := bE H
    obtain ⟨t153, A80, H⟩ := H
    replace H : (some (t146, t153)) = some (r1, r2) := H
    have A8 := Aside0.mk A80
    clear A80
    simp only [Option.some.injEq, Prod.mk.injEq] at H
    obtain ⟨rfl, rfl⟩ := H
    go_enter Tryd.func83, Tryd.ntmps83
    go_wp2_with (first | ((with_reducible refine gate_callee (f := 68) rfl ?_); refine goesLq (some 10) rfl rfl Tryd.func68 #[.slice A0 l0.length c0, .slice A1 l1.length c1] rfl ?_; (with_reducible refine (insolvencyref1_order.calls k _ _ l0 _ _ l1 t144 _ ?side1 ?side2 ?side3 ?side4 A3.out).mono ?_); (case side1 => exact Kd.C_up (Kd.V_reads' HO0.out).2.2); (case side2 => exact (Kd.V_reads' HO0.out).2.1); (case side3 => repeat (first | exact HR1.out | (with_reducible refine Kd.C_alloc ?_ _) | (with_reducible refine Kd.C_drewN ?_ _) | (with_reducible refine Kd.C_drew ?_))); (case side4 => exact HC1.out); rintro e w' ⟨rfl, ⟨nd, rfl⟩⟩; refine ⟨_, rfl, ?_⟩; have p145 : 0 ≤ (0 : Int) := (by omega); have q145 : 0 < (l1.length : Int) := oD; obtain ⟨ad145, e145, hx145_0⟩ := Kd.at_int HR1.out 0 p145 q145; cases e145; have qi145 : (0 < l1.length) = True := eq_true (by omega); (try rw [show ((0 : Int)).toNat = 0 from rfl] at hx145_0); (try rw [Addr.add_zero'] at hx145_0); replace p145 := eq_true p145; replace q145 := eq_true q145) | ((with_reducible refine gate_callee (f := 96) rfl ?_); refine goesLq (some 21) rfl rfl Tryd.func96 #[.slice A0 l0.length c0, .int .u32 (rd l1 0)] rfl ?_; (with_reducible refine (insolvencyref1_short.calls k _ _ l0 (rd l1 0) t146 t149 _ ?side1 ?side2 A7.out).mono ?_); (case side1 => exact Kd.C_up (Kd.V_reads' HO0.out).2.2); (case side2 => exact (Kd.V_reads' HO0.out).2.1); rintro e w9 ⟨v147, rfl, ho0, hb⟩; refine ⟨_, rfl, ?_⟩; have n0_ := aM (Kd.V_below (Kd.V_up HO0.out) hb); have n1_ := aM (Kd.V_lower (Kd.V_mono (ok' := fun k_ => (P0_ k_ ∨ w.heap.size ≤ k_)) ho0 (fun k_ hk_ => (.inr (Nat.le_trans (below_size (bU HB.out)) hk_)))) (below_size (bU HB.out))); have n2_ := aM (below_step (bU HB.out) hb); clear HO0; clear HB; have HO0 := n0_; have HO148 := n1_; have HB := n2_; clear n0_ n1_ n2_; (try clear hb); (try clear hb2); (try clear hk); (try clear hi); (try clear ho0)) | ((with_reducible refine gate_dst (N := 26) rfl ?_); refine Kd.R_lit (Kd.int .u32) _ 86 ?hg (N := 26) ?hd (xs := ([t149] : List Int)) (inner := [.int .u32 t149]) (ok := fun _ => True) (okp := fun _ => True) ?hr ?hp (fun _ hk => hk) trivial (Below.refl _ _) (Nat.le_refl _) (by simp) ?_; (case hd => rfl); (case hg => rfl); (case hr => first | (go_simp; done) | (go_simp; rfl)); (case hp => exact (Reps.one (show Kd.M (Kd.int .u32) _ _ _ t149 [.int .u32 t149] from rfl) (Reps.none _ _))); intro v151 w10 ho11 hb hg_ hnew_; clear hg_ hnew_; (first | rw [← Ny150.out] at ho11 | (simp only [Int.reduceToNat] at ho11; rw [← Ny150.out] at ho11)); have n0_ := aM (Kd.V_elder' (Kd.V_up HO0.out) (Kd.R_base ho11) hb); have n1_ := aM (Kd.V_elder' (Kd.V_up HO148.out) (Kd.R_base ho11) hb); have n2_ := aM (Kd.R_lower (Kd.R_newM (M := fun k_ => (w.heap.size ≤ k_)) ho11 (below_size (bU HB.out)) (fun k_ h_ => h_)) (below_size (bU HB.out))); have n3_ := aM (below_step (bU HB.out) hb); clear HO0; clear HO148; clear HB; have HO0 := n0_; have HO148 := n1_; have HO152 := n2_; have HB := n3_; clear n0_ n1_ n2_ n3_; clear hb ho11; obtain ⟨Ao12, co12, eo12⟩ := Kd.R_slice HO152.out; subst eo12) | ((with_reducible refine gate_callee (f := 81) rfl ?_); refine goesLq (some 27) rfl rfl Tryd.func81 #[.slice Ao12 y150.length co12] rfl ?_; (with_reducible refine (insolvencyref1_strip.calls k (fun k_ => some k_ = (.slice Ao12 y150.length co12 : Value).ownBlock) _ _ y150 t153 _ ?side1 A8.out).mono ?_); (case side1 => exact Kd.R_V (Kd.R_tight rfl (HO152.out))); rintro e w13 ⟨v154, rfl, ho0, hb⟩; refine ⟨_, rfl, ?_⟩; have n0_ := aM (Kd.V_below (Kd.V_up HO0.out) hb); have n1_ := aM (Kd.V_below (Kd.V_up HO148.out) hb); have n2_ := aM (Kd.R_below (Kd.R_up HO152.out) hb); have n3_ := aM (Kd.V_lower (Kd.V_mono (ok' := fun k_ => (P0_ k_ ∨ w.heap.size ≤ k_)) ho0 (fun k_ hk_ => Or.elim hk_ (fun hs_ => (.inr (((HO152.out).1 k_ hs_.symm).1))) (fun hn_ => (.inr (Nat.le_trans (below_size (bU HB.out)) hn_))))) (below_size (bU HB.out))); have n4_ := aM (below_step (bU HB.out) hb); clear HO0; clear HO148; clear HO152; clear HB; have HO0 := n0_; have HO148 := n1_; have HO152 := n2_; have HO155 := n3_; have HB := n4_; clear n0_ n1_ n2_ n3_ n4_; (try clear hb); (try clear hb2); (try clear hk); (try clear hi); (try clear ho0)))
    go_ret2
    exact ⟨_, _, by first | rfl | (simp [errW_none, errW_some] <;> rfl) | (simp [*, errW_none, errW_some] <;> rfl), Kd.V_up (Kd.V_mono HO148.out (fun _ hk => hk.1)), Kd.V_up HO155.out, bU HB.out⟩
   ·rw [if_neg c6] at H
    exact absurd H (by simp)
  ·rw [if_neg c5] at H
   exact absurd H (by simp)

/-! ### insolvencyref1_common: function 82 -/
def insolvencyref1_common.l0 : Nat → List Int → List Int → Option (List Int)
 | 0, _, _ => none
 | k + 1, x0, x1 => if (x1.length : Int) > 0 then ((insolvencyref1_divide.f k x0 x1).bind fun bt156 => (insolvencyref1_common.l0 k x1 bt156.2)) else (some x0)
def insolvencyref1_common.f (k : Nat) (l0 : List Int) (l1 : List Int) : Option (List Int) := insolvencyref1_common.l0 k l0 l1
theorem insolvencyref1_common.mono_l : ∀ k, (∀ y0 y1, LeO (insolvencyref1_common.l0 k y0 y1) (insolvencyref1_common.l0 (k + 1) y0 y1))
 | 0 => fun _ _ r h => by simp [insolvencyref1_common.l0] at h
 | k + 1 => by
  have ih0 := insolvencyref1_common.mono_l k
  ·intro y0 y1
   unfold insolvencyref1_common.l0
   repeat' first
   | (with_reducible exact ih0 _ _)
   | (with_reducible exact insolvencyref1_divide.mono _ _ _)
   | (with_reducible exact LeO.refl _)
   | (with_reducible exact LeO.none _)
   | (with_reducible refine LeO.ite ?_ ?_)
   | (with_reducible refine LeO.bind ?_ (fun _ => ?_))
   | exact LeO.none _
   | refine LeO.ite ?_ ?_
   | refine LeO.bind ?_ (fun _ => ?_)
theorem insolvencyref1_common.mono : ∀ a0 a1 k, LeO (insolvencyref1_common.f k a0 a1) (insolvencyref1_common.f (k + 1) a0 a1) := by
 intro a0 a1 k
 have ih0 := insolvencyref1_common.mono_l k
 unfold insolvencyref1_common.f
 repeat' first
   | (with_reducible exact ih0 _ _)
   | (with_reducible exact insolvencyref1_divide.mono _ _ _)
   | (with_reducible exact LeO.refl _)
   | (with_reducible exact LeO.none _)
   | (with_reducible refine LeO.ite ?_ ?_)
   | (with_reducible refine LeO.bind ?_ (fun _ => ?_))
   | exact LeO.none _
   | refine LeO.ite ?_ ?_
   | refine LeO.bind ?_ (fun _ => ?_)
set_option maxHeartbeats 8000000 in
set_option maxRecDepth 100000 in
theorem insolvencyref1_common.calls (k : Nat) (P0_ : Nat → Prop) (A0 : Option Addr) (c0 : Nat) (l0 : List Int) (P1_ : Nat → Prop) (A1 : Option Addr) (c1 : Nat) (l1 : List Int) (r : List Int) (w : World) (hs0 : Kd.V (Kd.int .u32) 86 w w.heap.size (fun k_ => P0_ k_) (.slice A0 l0.length c0) l0) (hs1 : Kd.V (Kd.int .u32) 86 w w.heap.size (fun k_ => P1_ k_) (.slice A1 l1.length c1) l1) (h : insolvencyref1_common.f k l0 l1 = some r) :
  Calls Tryd.prog 82 #[.slice A0 l0.length c0, .slice A1 l1.length c1] w fun e w' => ∃ v0_ : Value, e = .returned (v0_) ∧ Kd.V (Kd.int .u32) 86 w' w.heap.size (fun k_ => ((P0_ k_ ∨ P1_ k_) ∨ w.heap.size ≤ k_)) v0_ r ∧ Below w.heap.size w w' := by
 have HO0 := aM (show Kd.V (Kd.int .u32) 86 w w.heap.size (fun k_ => ((P0_ k_ ∨ P1_ k_) ∨ w.heap.size ≤ k_)) (.slice A0 l0.length c0) l0 from Kd.V_mono hs0 (fun k_ hk => .inl (.inl hk)))
 have HO1 := aM (show Kd.V (Kd.int .u32) 86 w w.heap.size (fun k_ => ((P0_ k_ ∨ P1_ k_) ∨ w.heap.size ≤ k_)) (.slice A1 l1.length c1) l1 from Kd.V_mono hs1 (fun k_ hk => .inl (.inr hk)))
 have HB := aM (Below.refl w.heap.size w)
 have H : (insolvencyref1_common.l0 k l0 l1) = some r := h
 clear h
 have H' := Aside0.mk H
 clear H
 go_enter Tryd.func82, Tryd.ntmps82
 go_wp2
 go_loopg [0, 1] k (fun kq v0 v1 w' => ∃ (x0_1 : List Int) (x1_1 : List Int), Aside0 (insolvencyref1_common.l0 kq x0_1 x1_1 = some r) ∧ Aside0 (kq ≤ k) ∧ Aside0 (Kd.V (Kd.int .u32) 86 w' w.heap.size (fun k_ => ((P0_ k_ ∨ P1_ k_) ∨ w.heap.size ≤ k_)) v0 x0_1) ∧ Aside0 (Kd.V (Kd.int .u32) 86 w' w.heap.size (fun k_ => ((P0_ k_ ∨ P1_ k_) ∨ w.heap.size ≤ k_)) v1 x1_1) ∧ Aside0 (Below w.heap.size w w'))
 case atStart => exact ⟨(l0), (l1), H', ⟨Nat.le_refl _⟩, ⟨Kd.V_up HO0.out⟩, ⟨Kd.V_up HO1.out⟩, ⟨bU HB.out⟩⟩
 case round =>
  clear H'
  (try clear c1); (try clear p2)
  obtain ⟨x0_1, x1_1, HA, HK1, HO_0, HO_1, HB⟩ := hrel
  cases gk with
  | zero => exact absurd HA.out (by simp [insolvencyref1_common.l0])
  | succ k1 =>
   have H := HA.out
   clear HA
   simp only [insolvencyref1_common.l0] at H
   by_cases c3 : (x1_1.length : Int) > 0
   ·rw [if_pos c3] at H
    have c3b0 : decide (0 < (x1_1.length : Int)) = true := decide_eq_true c3
    have c3b1 : decide (0 < x1_1.length) = true := decide_eq_true (by omega)
    clear c3
    replace H := bE H
    obtain ⟨⟨t156, t159⟩, A40, H⟩ := H
    replace H : (insolvencyref1_common.l0 k1 x1_1 t159) = some r := H
    have A4 := Aside0.mk A40
    clear A40
    have H' := Aside0.mk H
    clear H
    obtain ⟨Ao5, co5, eo5⟩ := Kd.V_slice HO_1.out
    subst eo5
    obtain ⟨Ao6, co6, eo6⟩ := Kd.V_slice HO_0.out
    subst eo6
    go_wp2_with (first | ((with_reducible refine gate_callee (f := 83) rfl ?_); refine goesLq (some 13) rfl rfl Tryd.func83 #[.slice Ao6 x0_1.length co6, .slice Ao5 x1_1.length co5] rfl ?_; (with_reducible refine (insolvencyref1_divide.calls k1 (fun k_ => ((P0_ k_ ∨ P1_ k_) ∨ w.heap.size ≤ k_)) _ _ x0_1 _ _ x1_1 t156 t159 _ ?side1 ?side2 ?side3 A4.out).mono ?_); (case side1 => exact HO_0.out); (case side2 => exact Kd.C_up (Kd.V_reads' HO_1.out).2.2); (case side3 => exact (Kd.V_reads' HO_1.out).2.1); rintro e w7 ⟨v157, v160, rfl, ho0, ho1, hb⟩; refine ⟨_, rfl, ?_⟩; have n0_ := aM (Kd.V_below (Kd.V_up HO_0.out) hb); have n1_ := aM (Kd.V_below (Kd.V_up HO_1.out) hb); have n2_ := aM (Kd.V_lower (Kd.V_mono (ok' := fun k_ => ((P0_ k_ ∨ P1_ k_) ∨ w.heap.size ≤ k_)) ho0 (fun k_ hk_ => Or.elim hk_ (fun hs_ => hs_) (fun hn_ => (.inr (Nat.le_trans (below_size (bU HB.out)) hn_))))) (below_size (bU HB.out))); have n3_ := aM (Kd.V_lower (Kd.V_mono (ok' := fun k_ => ((P0_ k_ ∨ P1_ k_) ∨ w.heap.size ≤ k_)) ho1 (fun k_ hk_ => Or.elim hk_ (fun hs_ => hs_) (fun hn_ => (.inr (Nat.le_trans (below_size (bU HB.out)) hn_))))) (below_size (bU HB.out))); have n4_ := aM (below_step (bU HB.out) hb); clear HO_0; clear HO_1; clear HB; have HO_0 := n0_; have HO_1 := n1_; have HO158 := n2_; have HO161 := n3_; have HB := n4_; clear n0_ n1_ n2_ n3_ n4_; (try clear hb); (try clear hb2); (try clear hk); (try clear hi); (try clear ho0); (try clear ho1)))
    go_roundg k1
    case measure => have := HK1.out; omega
    case rel => exact ⟨(x1_1), (t159), H', ⟨by have := HK1.out; omega⟩, ⟨Kd.V_up HO_1.out⟩, ⟨Kd.V_up HO161.out⟩, ⟨bU HB.out⟩⟩
   ·rw [if_neg c3] at H
    have c3b0 : decide (0 < (x1_1.length : Int)) = false := decide_eq_false c3
    have c3b1 : decide (0 < x1_1.length) = false := decide_eq_false (by omega)
    clear c3
    obtain rfl := Option.some.inj H
    obtain ⟨Ao8, co8, eo8⟩ := Kd.V_slice HO_1.out
    subst eo8
    go_wp2
    go_ret
    exact ⟨_, by first | rfl | (simp [errW_none, errW_some] <;> rfl) | (simp [*, errW_none, errW_some] <;> rfl), Kd.V_up HO_0.out, bU HB.out⟩

end Go.Proofs.YtjeamaahhpbbkaaDoor.PAll
