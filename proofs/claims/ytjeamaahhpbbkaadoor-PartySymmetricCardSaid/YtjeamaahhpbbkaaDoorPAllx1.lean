-- PRINTED by a session's own changed print
import Derived.Test.YtjeamaahhpbbkaaDoorPAllx0
namespace Go.Proofs.YtjeamaahhpbbkaaDoor.PAll
open Go.RowKit Go.Proofs.YtjeamaahhpbbkaaDoorW.PrintWords Go.Proofs.YtjeamaahhpbbkaaDoorW.PrintLast
set_option linter.unusedVariables false
set_option linter.unusedSimpArgs false

/-! ### insolvencyref1_Normalize: function 79 -/
def insolvencyref1_Normalize.l0 : Nat → ByteArray → Int → Option (ByteArray)
 | 0, _, _ => none
 | k + 1, x0, x3 => if x3 < (x0.size : Int) then (if 0 ≤ x3 then (if (bt x0 x3) = 0 then (insolvencyref1_Normalize.l0 k x0 (wrap64 (x3 + 1))) else (if x3 ≤ (x0.size : Int) then (some (x0.extract (x3 : Int).toNat x0.size)) else (none))) else (none)) else (if 0 ≤ x3 then (if x3 ≤ (x0.size : Int) then (some (x0.extract (x3 : Int).toNat x0.size)) else (none)) else (none))
def insolvencyref1_Normalize.f (k : Nat) (a0 : ByteArray) : Option (ByteArray) := insolvencyref1_Normalize.l0 k a0 0
theorem insolvencyref1_Normalize.mono_l : ∀ k, (∀ y0 y1, LeO (insolvencyref1_Normalize.l0 k y0 y1) (insolvencyref1_Normalize.l0 (k + 1) y0 y1))
 | 0 => fun _ _ r h => by simp [insolvencyref1_Normalize.l0] at h
 | k + 1 => by
  have ih0 := insolvencyref1_Normalize.mono_l k
  ·intro y0 y1
   unfold insolvencyref1_Normalize.l0
   repeat' first
   | (with_reducible exact ih0 _ _)
   | (with_reducible exact LeO.refl _)
   | (with_reducible exact LeO.none _)
   | (with_reducible refine LeO.ite ?_ ?_)
   | (with_reducible refine LeO.bind ?_ (fun _ => ?_))
   | exact LeO.none _
   | refine LeO.ite ?_ ?_
   | refine LeO.bind ?_ (fun _ => ?_)
theorem insolvencyref1_Normalize.mono : ∀ a0 k, LeO (insolvencyref1_Normalize.f k a0) (insolvencyref1_Normalize.f (k + 1) a0) := by
 intro a0 k
 have ih0 := insolvencyref1_Normalize.mono_l k
 unfold insolvencyref1_Normalize.f
 repeat' first
   | (with_reducible exact ih0 _ _)
   | (with_reducible exact LeO.refl _)
   | (with_reducible exact LeO.none _)
   | (with_reducible refine LeO.ite ?_ ?_)
   | (with_reducible refine LeO.bind ?_ (fun _ => ?_))
   | exact LeO.none _
   | refine LeO.ite ?_ ?_
   | refine LeO.bind ?_ (fun _ => ?_)
set_option maxHeartbeats 8000000 in
set_option maxRecDepth 100000 in
theorem insolvencyref1_Normalize.calls (k : Nat) (a0 : ByteArray) (r : ByteArray) (w : World) (h : insolvencyref1_Normalize.f k a0 = some r) :
  Calls Tryd.prog 79 #[.string a0] w fun e w' => e = .returned (.string r) ∧ Drawn0 w w' := by
 have H : (insolvencyref1_Normalize.l0 k a0 0) = some r := h
 clear h
 have H' := Aside0.mk H
 clear H
 go_enter Tryd.func79, Tryd.ntmps79
 go_wp2
 go_loopg [3] k (fun kq v3 w' => ∃ (x3_1 : Int), v3 = .int .i64 x3_1 ∧ Aside0 (insolvencyref1_Normalize.l0 kq a0 x3_1 = some r) ∧ Aside0 (kq ≤ k) ∧ Drawn0 w w')
 case atStart => exact ⟨(0), (by first | rfl | (simp; done) | (simp [*]; done)), H', ⟨Nat.le_refl _⟩, by repeat (first | exact Drawn0.refl _ | apply Drawn0.step)⟩
 case round =>
  clear H'
  obtain ⟨x3_1, rfl, HA, HK1, ⟨m1, rfl⟩⟩ := hrel
  cases gk with
  | zero => exact absurd HA.out (by simp [insolvencyref1_Normalize.l0])
  | succ k1 =>
   have H := HA.out
   clear HA
   simp only [insolvencyref1_Normalize.l0] at H
   by_cases c2 : x3_1 < (a0.size : Int)
   ·rw [if_pos c2] at H
    have c2b0 := decide_eq_true c2
    clear c2
    by_cases c3 : 0 ≤ x3_1
    ·rw [if_pos c3] at H
     have c3b0 := decide_eq_true c3
     clear c3
     by_cases c5 : (bt a0 x3_1) = 0
     ·rw [if_pos c5] at H
      have c5b0 : ((bt a0 x3_1) == 0) = true := beq_iff_eq.mpr c5
      have c5b1 : ((bt a0 x3_1) != 0) = false := bne_eq_false_iff_eq.mpr c5
      clear c5
      have H' := Aside0.mk H
      clear H
      have p4 : 0 ≤ (x3_1 : Int) := oD
      have q4 : x3_1 < (a0.size : Int) := oD
      have hx4 := bt_at a0 x3_1
      replace p4 := eq_true p4
      replace q4 := eq_true q4
      go_wp2
      go_roundg k1
      case measure => have := HK1.out; omega
      case rel => exact ⟨(wrap64 (x3_1 + 1)), (by first | rfl | (simp; done) | (simp [*]; done)), H', ⟨by have := HK1.out; omega⟩, by repeat (first | exact Drawn0.refl _ | apply Drawn0.step)⟩
     ·rw [if_neg c5] at H
      have c5b0 : ((bt a0 x3_1) == 0) = false := beq_eq_false_iff_ne.mpr c5
      have c5b1 : ((bt a0 x3_1) != 0) = true := bne_iff_ne.mpr c5
      have c6b0 := eq_true (oD : 0 ≤ x3_1)
      by_cases c7 : x3_1 ≤ (a0.size : Int)
      ·rw [if_pos c7] at H
       have c7b0 := eq_true c7
       have c7b1 := decide_eq_true c7
       clear c7
       obtain rfl := Option.some.inj H
       have p4 : 0 ≤ (x3_1 : Int) := oD
       have q4 : x3_1 < (a0.size : Int) := oD
       have hx4 := bt_at a0 x3_1
       replace p4 := eq_true p4
       replace q4 := eq_true q4
       go_wp2
       go_ret
       exact ⟨by first | rfl | (simp; done) | (simp [*]; done), by repeat (first | exact Drawn0.refl _ | apply Drawn0.step)⟩
      ·rw [if_neg c7] at H
       exact absurd H (by simp)
    ·rw [if_neg c3] at H
     exact absurd H (by simp)
   ·rw [if_neg c2] at H
    have c2b0 := decide_eq_false c2
    clear c2
    by_cases c8 : 0 ≤ x3_1
    ·rw [if_pos c8] at H
     have c8b0 := eq_true c8
     have c8b1 := decide_eq_true c8
     clear c8
     by_cases c9 : x3_1 ≤ (a0.size : Int)
     ·rw [if_pos c9] at H
      have c9b0 := eq_true c9
      have c9b1 := decide_eq_true c9
      clear c9
      obtain rfl := Option.some.inj H
      go_wp2
      go_ret
      exact ⟨by first | rfl | (simp; done) | (simp [*]; done), by repeat (first | exact Drawn0.refl _ | apply Drawn0.step)⟩
     ·rw [if_neg c9] at H
      exact absurd H (by simp)
    ·rw [if_neg c8] at H
     exact absurd H (by simp)

/-! ### insolvencyref1_limbs: function 65 -/
def insolvencyref1_limbs.l0 : Nat → ByteArray → List Int → Int → Option (List Int)
 | 0, _, _, _ => none
 | k + 1, x0, x3, x4 => if x4 < (x0.size : Int) then (if 0 ≤ (wrap64 (Int.tdiv x4 4)) then (if (wrap64 (Int.tdiv x4 4)) < (x3.length : Int) then (if 0 ≤ (wrap64 ((wrap64 ((x0.size : Int) - 1)) - x4)) then (if (wrap64 ((wrap64 ((x0.size : Int) - 1)) - x4)) < (x0.size : Int) then (if 0 ≤ (IntKind.u64.wrap (wrap64 (8 * (Int.tmod x4 4)))) then (insolvencyref1_limbs.l0 k x0 (x3.set ((wrap64 (Int.tdiv x4 4)) : Int).toNat (Go.bits .or .u32 (rd x3 (wrap64 (Int.tdiv x4 4))) ((((bt x0 (wrap64 ((wrap64 ((x0.size : Int) - 1)) - x4))) % 4294967296) * 2 ^ min (IntKind.u64.wrap (wrap64 (8 * (Int.tmod x4 4)))).toNat 32) % 4294967296))) (wrap64 (x4 + 1))) else (none)) else (none)) else (none)) else (none)) else (none)) else (some x3)
def insolvencyref1_limbs.f (k : Nat) (a0 : ByteArray) : Option (List Int) := (insolvencyref1_Normalize.f k a0).bind fun t101 => (if 0 ≤ (wrap64 (Int.tdiv (wrap64 ((t101.size : Int) + 3)) 4)) then (if (wrap64 (Int.tdiv (wrap64 ((t101.size : Int) + 3)) 4) : Int).toNat ≤ 70368744177664 then (insolvencyref1_limbs.l0 k t101 (List.replicate (wrap64 (Int.tdiv (wrap64 ((t101.size : Int) + 3)) 4) : Int).toNat 0) 0) else (none)) else (none))
theorem insolvencyref1_limbs.mono_l : ∀ k, (∀ y0 y1 y2, LeO (insolvencyref1_limbs.l0 k y0 y1 y2) (insolvencyref1_limbs.l0 (k + 1) y0 y1 y2))
 | 0 => fun _ _ _ r h => by simp [insolvencyref1_limbs.l0] at h
 | k + 1 => by
  have ih0 := insolvencyref1_limbs.mono_l k
  ·intro y0 y1 y2
   unfold insolvencyref1_limbs.l0
   repeat' first
   | (with_reducible exact ih0 _ _ _)
   | (with_reducible exact insolvencyref1_Normalize.mono _ _)
   | (with_reducible exact LeO.refl _)
   | (with_reducible exact LeO.none _)
   | (with_reducible refine LeO.ite ?_ ?_)
   | (with_reducible refine LeO.bind ?_ (fun _ => ?_))
   | exact LeO.none _
   | refine LeO.ite ?_ ?_
   | refine LeO.bind ?_ (fun _ => ?_)
theorem insolvencyref1_limbs.mono : ∀ a0 k, LeO (insolvencyref1_limbs.f k a0) (insolvencyref1_limbs.f (k + 1) a0) := by
 intro a0 k
 have ih0 := insolvencyref1_limbs.mono_l k
 unfold insolvencyref1_limbs.f
 repeat' first
   | (with_reducible exact ih0 _ _ _)
   | (with_reducible exact insolvencyref1_Normalize.mono _ _)
   | (with_reducible exact LeO.refl _)
   | (with_reducible exact LeO.none _)
   | (with_reducible refine LeO.ite ?_ ?_)
   | (with_reducible refine LeO.bind ?_ (fun _ => ?_))
   | exact LeO.none _
   | refine LeO.ite ?_ ?_
   | refine LeO.bind ?_ (fun _ => ?_)
def insolvencyref1_limbs.T6 : Bool × List (List Nat × List Nat) := (true, [([], []), ([], []), ([1], [1]), ([], []), ([], []), ([4], [4]), ([3, 5], [3, 5]), ([6], [6]), ([], []), ([], []), ([9], [9]), ([10], [10]), ([], []), ([11, 12], [11, 12]), ([8, 13], [8, 13]), ([14], [14]), ([], []), ([16], [16]), ([17], [17]), ([18], [18]), ([15, 19], [15, 19]), ([7, 20], [7, 20]), ([0, 2, 0, 1, 2, 3, 4, 5, 6, 7, 8, 9, 10, 11, 12, 13, 14, 15, 16, 17, 18, 19, 20, 21], [0, 2]), ([22, 21, 0, 1, 2, 3, 4, 5, 6, 7, 8, 9, 10, 11, 12, 13, 14, 15, 16, 17, 18, 19, 20, 21], [21, 22])])
def insolvencyref1_limbs.B6 : List Nat := [0, 0, 2, 0, 0, 16, 56, 120, 0, 0, 512, 1536, 0, 7680, 16128, 32512, 0, 65536, 196608, 458752, 1048320, 2097144, 4194303, 8388607]
theorem insolvencyref1_limbs.tab6 : rtab .any (opsOf Tryd.f65 6) = insolvencyref1_limbs.T6 := by kernel_rfl
theorem insolvencyref1_limbs.bits6 : waitsOk insolvencyref1_limbs.T6.2 insolvencyref1_limbs.B6 = true := by kernel_rfl
set_option maxHeartbeats 8000000 in
set_option maxRecDepth 100000 in
theorem insolvencyref1_limbs.calls (k : Nat) (a0 : ByteArray) (r : List Int) (w : World) (h : insolvencyref1_limbs.f k a0 = some r) :
  Calls Tryd.prog 65 #[.string a0] w fun e w' => ∃ v0_ : Value, e = .returned (v0_) ∧ Kd.R (Kd.int .u32) 86 w' w.heap.size (fun _ => True) v0_ r ∧ Below w.heap.size w w' := by
 have HB := aM (Below.refl w.heap.size w)
 have H : ((insolvencyref1_Normalize.f k a0).bind fun t101 => (if 0 ≤ (wrap64 (Int.tdiv (wrap64 ((t101.size : Int) + 3)) 4)) then (if (wrap64 (Int.tdiv (wrap64 ((t101.size : Int) + 3)) 4) : Int).toNat ≤ 70368744177664 then (insolvencyref1_limbs.l0 k t101 (List.replicate (wrap64 (Int.tdiv (wrap64 ((t101.size : Int) + 3)) 4) : Int).toNat 0) 0) else (none)) else (none))) = some r := h
 clear h
 replace H := bE H
 obtain ⟨t101, A20, H⟩ := H
 replace H : (if 0 ≤ (wrap64 (Int.tdiv (wrap64 ((t101.size : Int) + 3)) 4)) then (if (wrap64 (Int.tdiv (wrap64 ((t101.size : Int) + 3)) 4) : Int).toNat ≤ 70368744177664 then (insolvencyref1_limbs.l0 k t101 (List.replicate (wrap64 (Int.tdiv (wrap64 ((t101.size : Int) + 3)) 4) : Int).toNat 0) 0) else (none)) else (none)) = some r := H
 have A2 := Aside0.mk A20
 clear A20
 obtain ⟨ji3, hji3⟩ : ∃ j_ : Int, (wrap64 (Int.tdiv (wrap64 ((t101.size : Int) + 3)) 4)) = j_ := ⟨_, rfl⟩
 replace H : (if 0 ≤ (ji3) then (if (ji3 : Int).toNat ≤ 70368744177664 then (insolvencyref1_limbs.l0 k t101 (List.replicate (ji3 : Int).toNat 0) 0) else (none)) else (none)) = some r := by first | (rw [hji3] at H; exact H) | (simp only [hji3] at H ⊢; exact H)
 (try rw [hji3] at A2)
 have hji3w : (IntKind.i64.wrap (Int.tdiv (wrap64 ((t101.size : Int) + 3)) 4)) = ji3 := (i64_w _).trans hji3
 by_cases c4 : 0 ≤ (ji3)
 ·rw [if_pos c4] at H
  have c4b0 := eq_true c4
  have c4b1 := decide_eq_true c4
  clear c4
  by_cases c5 : (ji3 : Int).toNat ≤ 70368744177664
  ·rw [if_pos c5] at H
   have c5b0 := eq_true c5
   have c5b1 := decide_eq_true c5
   clear c5
   obtain ⟨y102, hy102⟩ : ∃ y_ : List Int, y_ = (List.replicate (ji3 : Int).toNat 0) := ⟨_, rfl⟩
   replace H : (insolvencyref1_limbs.l0 k t101 y102 0) = some r := by first | (rw [hy102]; with_reducible exact H) | (have H2_ := (Option.bind_some _ _).symm.trans H; rw [hy102]; with_reducible exact H2_) | (have H2_ := (Option.bind_some _ _).symm.trans H; with_reducible exact H2_) | with_reducible exact H | (rw [hy102]; exact H) | exact H
   have Ny102 := Aside0.mk hy102
   clear hy102
   have H' := Aside0.mk H
   clear H
   go_enter Tryd.func65, Tryd.ntmps65
   go_wp2_with (first | ((with_reducible refine gate_callee (f := 79) rfl ?_); refine goesLq (some 6) rfl rfl Tryd.func79 #[.string a0] rfl ?_; (with_reducible refine (insolvencyref1_Normalize.calls k a0 t101 _ A2.out).mono ?_); rintro e w' ⟨rfl, ⟨nd, rfl⟩⟩; refine ⟨_, rfl, ?_⟩) | ((with_reducible refine gate_dst (N := 11) rfl ?_); refine Kd.R_make (Kd.int .u32) _ 86 rfl (N := 11) rfl 83 _ _ rfl ji3 rfl rfl Tryd.underlying83 (.int .u32 0) 4 info86 rfl (by decide) (by omega) 0 (ok := fun _ => True) (okp := fun _ => True) rfl (fun _ hk => hk) trivial (oD) (Nat.le_trans (Nat.mul_le_mul_right _ (oD : ji3.toNat ≤ 70368744177664)) (by omega)) (Below.refl _ _) (Nat.le_refl _) ?_; intro v103 w6 ho7 hb hg_ hnew_; clear hg_ hnew_; (first | rw [← Ny102.out] at ho7 | (simp only [Int.reduceToNat] at ho7; rw [← Ny102.out] at ho7)); have n0_ := aM (Kd.R_lower ho7 (below_size (bU HB.out))); have n1_ := aM (below_step (bU HB.out) hb); clear HB; have HO104 := n0_; have HB := n1_; clear n0_ n1_; clear hb ho7))
   go_loopg [4] k (fun kq v4 w' => ∃ (x3_1 : List Int) (x4_1 : Int), v4 = .int .i64 x4_1 ∧ Aside0 (insolvencyref1_limbs.l0 kq t101 x3_1 x4_1 = some r) ∧ Aside0 (kq ≤ k) ∧ Aside0 (Kd.R (Kd.int .u32) 86 w' w.heap.size (fun _ => True) v103 x3_1) ∧ Aside0 (Below w.heap.size w w'))
   case atStart => exact ⟨(y102), (0), (by first | rfl | (simp; done) | (simp [*]; done)), H', ⟨Nat.le_refl _⟩, ⟨Kd.R_up HO104.out⟩, ⟨bU HB.out⟩⟩
   case round =>
    clear H'
    (try clear p2); (try clear c4); (try clear c4b0); (try clear c4b1); (try clear c5); (try clear c5b0); (try clear c5b1); (try clear c6); (try clear p6); (try clear c7)
    obtain ⟨x3_1, x4_1, rfl, HA, HK1, HO_3, HB⟩ := hrel
    cases gk with
    | zero => exact absurd HA.out (by simp [insolvencyref1_limbs.l0])
    | succ k1 =>
     have H := HA.out
     clear HA
     simp only [insolvencyref1_limbs.l0] at H
     by_cases c8 : x4_1 < (t101.size : Int)
     ·rw [if_pos c8] at H
      have c8b0 := decide_eq_true c8
      clear c8
      obtain ⟨ji9, hji9⟩ : ∃ j_ : Int, (wrap64 (Int.tdiv x4_1 4)) = j_ := ⟨_, rfl⟩
      replace H : (if 0 ≤ (ji9) then (if (ji9) < (x3_1.length : Int) then (if 0 ≤ (wrap64 ((wrap64 ((t101.size : Int) - 1)) - x4_1)) then (if (wrap64 ((wrap64 ((t101.size : Int) - 1)) - x4_1)) < (t101.size : Int) then (if 0 ≤ (IntKind.u64.wrap (wrap64 (8 * (Int.tmod x4_1 4)))) then (insolvencyref1_limbs.l0 k1 t101 (x3_1.set ((ji9) : Int).toNat (Go.bits .or .u32 (rd x3_1 (ji9)) ((((bt t101 (wrap64 ((wrap64 ((t101.size : Int) - 1)) - x4_1))) % 4294967296) * 2 ^ min (IntKind.u64.wrap (wrap64 (8 * (Int.tmod x4_1 4)))).toNat 32) % 4294967296))) (wrap64 (x4_1 + 1))) else (none)) else (none)) else (none)) else (none)) else (none)) = some r := by first | (rw [hji9] at H; exact H) | (simp only [hji9] at H ⊢; exact H)
      have hji9w : (IntKind.i64.wrap (Int.tdiv x4_1 4)) = ji9 := (i64_w _).trans hji9
      by_cases c10 : 0 ≤ (ji9)
      ·rw [if_pos c10] at H
       have c10b0 := decide_eq_true c10
       clear c10
       by_cases c11 : (ji9) < (x3_1.length : Int)
       ·rw [if_pos c11] at H
        have c11b0 := decide_eq_true c11
        clear c11
        obtain ⟨ji12, hji12⟩ : ∃ j_ : Int, (wrap64 ((wrap64 ((t101.size : Int) - 1)) - x4_1)) = j_ := ⟨_, rfl⟩
        replace H : (if 0 ≤ (ji12) then (if (ji12) < (t101.size : Int) then (if 0 ≤ (IntKind.u64.wrap (wrap64 (8 * (Int.tmod x4_1 4)))) then (insolvencyref1_limbs.l0 k1 t101 (x3_1.set ((ji9) : Int).toNat (Go.bits .or .u32 (rd x3_1 (ji9)) ((((bt t101 (ji12)) % 4294967296) * 2 ^ min (IntKind.u64.wrap (wrap64 (8 * (Int.tmod x4_1 4)))).toNat 32) % 4294967296))) (wrap64 (x4_1 + 1))) else (none)) else (none)) else (none)) = some r := by first | (rw [hji12] at H; exact H) | (simp only [hji12] at H ⊢; exact H)
        have hji12w : (IntKind.i64.wrap ((wrap64 ((t101.size : Int) - 1)) - x4_1)) = ji12 := (i64_w _).trans hji12
        by_cases c13 : 0 ≤ (ji12)
        ·rw [if_pos c13] at H
         have c13b0 := decide_eq_true c13
         clear c13
         by_cases c14 : (ji12) < (t101.size : Int)
         ·rw [if_pos c14] at H
          have c14b0 := decide_eq_true c14
          clear c14
          obtain ⟨ji16, hji16⟩ : ∃ j_ : Int, (IntKind.u64.wrap (wrap64 (8 * (Int.tmod x4_1 4)))) = j_ := ⟨_, rfl⟩
          replace H : (if 0 ≤ (ji16) then (insolvencyref1_limbs.l0 k1 t101 (x3_1.set ((ji9) : Int).toNat (Go.bits .or .u32 (rd x3_1 (ji9)) ((((bt t101 (ji12)) % 4294967296) * 2 ^ min (ji16).toNat 32) % 4294967296))) (wrap64 (x4_1 + 1))) else (none)) = some r := by first | (rw [hji16] at H; exact H) | (simp only [hji16] at H ⊢; exact H)
          by_cases c17 : 0 ≤ (ji16)
          ·rw [if_pos c17] at H
           have c17b0 := eq_true c17
           have c17b1 := decide_eq_true c17
           clear c17
           obtain ⟨y106, hy106⟩ : ∃ y_ : List Int, y_ = (x3_1.set ((ji9) : Int).toNat (Go.bits .or .u32 (rd x3_1 (ji9)) ((((bt t101 (ji12)) % 4294967296) * 2 ^ min (ji16).toNat 32) % 4294967296))) := ⟨_, rfl⟩
           replace H : (insolvencyref1_limbs.l0 k1 t101 y106 (wrap64 (x4_1 + 1))) = some r := by first | (rw [hy106]; with_reducible exact H) | (have H2_ := (Option.bind_some _ _).symm.trans H; rw [hy106]; with_reducible exact H2_) | (have H2_ := (Option.bind_some _ _).symm.trans H; with_reducible exact H2_) | with_reducible exact H | (rw [hy106]; exact H) | exact H
           have Ny106 := Aside0.mk hy106
           clear hy106
           have H' := Aside0.mk H
           clear H
           try go_wp2
           have n0_ := aM (Kd.R_drew HO_3.out)
           have n1_ := aM (below_drew1 HB.out)
           clear HO_3
           clear HB
           have HO_3 := n0_
           have HB := n1_
           clear n0_ n1_
           obtain ⟨Ao20, co20, eo20⟩ := Kd.R_slice HO_3.out
           (first | subst eo20 | (injection eo20 with f1_ f2_ f3_; have f4_ := f1_.symm; have f5_ := f3_.symm; clear f1_ f2_ f3_; subst f4_; subst f5_))
           have p105 : 0 ≤ ((ji9) : Int) := oD
           have q105 : (ji9) < (x3_1.length : Int) := oD
           obtain ⟨ad105, e105, hx105_0⟩ := Kd.at_int (Kd.R_reads' HO_3.out).2.2 (ji9) p105 q105
           cases e105
           replace p105 := eq_true p105
           replace q105 := eq_true q105
           have p15 : 0 ≤ ((ji12) : Int) := oD
           have q15 : (ji12) < (t101.size : Int) := oD
           have hx15 := bt_at t101 (ji12)
           replace p15 := eq_true p15
           replace q15 := eq_true q15
           have p18 : 0 ≤ ((ji9) : Int) := oD
           have q18 : ((ji9) : Int) < ((x3_1.length : Int) : Int) := oD
           obtain ⟨go18, co18, eo18, gb18, gl18, cl18, HG18⟩ := Kd.R_form HO_3.out (by omega)
           (first | cases eo18 | (injection eo18 with ea_ en_ ec_; (first | subst ea_ | (injection ea_ with ea_; subst ea_)); subst ec_; clear en_))
           have GB18 := Aside0.mk gb18
           have GG18 := Aside0.mk HG18
           clear gb18 gl18 HG18
           (first | simp only [add_plain] at hx105_0 | skip)
           obtain ⟨hx18_0, hf18_0⟩ := Kd.R_celln 0 HO_3.out ((ji9) : Int) p18 q18
           replace p18 := eq_true p18
           replace q18 := eq_true q18
           have HP21 := Kd.R_putn HO_3.out ((ji9) : Int) (Go.bits .or .u32 (rd x3_1 (ji9)) ((((bt t101 (ji12)) % 4294967296) * 2 ^ min (ji16).toNat 32) % 4294967296))
           rw [← Ny106.out] at HP21
           have HQ21 := Aside0.mk HP21
           clear HP21
           refine start_ (n := 24) (S := fun w' => w'.cell? ⟨go18, ((ji9)).toNat, none⟩ = some (.int .u32 (rd x3_1 (ji9)))) (ds := [23]) #[false, false, false, false, false, false, false, false, false, false, false, false, false, false, false, false, false, false, false, false, false, false, false, false] (by kernel_rfl) rfl rfl (hx105_0) (fun hHeld => ?_); refine with_tabW insolvencyref1_limbs.tab6 insolvencyref1_limbs.bits6 (fun HT_ HW_ => ?_)
           generalize wr.drew = w19 at HO_3 HB GG18 HQ21 hf18_0 hx105_0 hx18_0 hHeld ⊢
           refine pureq (i := 0) (N := some 18) HT_.out rfl rfl ?_
           refine pureq (i := 1) (N := some 19) HT_.out rfl rfl ?_
           refine pureq (i := 2) (N := some 20) HT_.out rfl rfl ?_
           refine pureq (i := 3) (N := some 21) HT_.out rfl rfl ?_
           refine pureq (i := 4) (N := some 22) HT_.out rfl rfl ?_
           refine pureq (i := 5) (N := some 23) HT_.out rfl rfl ?_
           refine pureq (i := 6) (N := some 24) HT_.out rfl rfl ?_
           refine pureq (i := 8) (N := some 26) HT_.out rfl rfl ?_
           refine pureq (i := 9) (N := some 27) HT_.out rfl rfl ?_
           refine pureq (i := 10) (N := some 28) HT_.out rfl rfl ?_
           refine pureq (i := 11) (N := some 29) HT_.out rfl rfl ?_
           refine pureq (i := 12) (N := some 30) HT_.out rfl rfl ?_
           refine pureq (i := 13) (N := some 31) HT_.out rfl rfl ?_
           refine pureq (i := 16) (N := some 34) HT_.out rfl rfl ?_
           refine pureq (i := 17) (N := some 35) HT_.out rfl rfl ?_
           refine pureq (i := 18) (N := some 36) HT_.out rfl rfl ?_
           refine pureq (i := 19) (N := some 37) HT_.out rfl rfl ?_
           refine take_ (i := 7) (N := some 25) (v := ?_) (a' := ?_) #[true, true, true, true, true, true, true, true, true, true, true, true, true, true, false, false, true, true, true, true, false, false, false, false] rfl rfl (take_ofW HT_.out HW_.out (by kernel_rfl)) (fun _ _ _ h => h) (Or.inl ⟨by rfl, ?_⟩) hHeld ?_ ?_
           rotate_left
           ·intro w' s0
            go_simp
            with_reducible rfl
           rotate_left
           ·simp only [Act.put, sTA, sC0, sCS, i64_w, i32_w]
            rfl
           refine take_ (i := 14) (N := some 32) (v := ?_) (a' := ?_) #[true, true, true, true, true, true, true, true, true, true, true, true, true, true, true, false, true, true, true, true, false, false, false, false] rfl rfl (take_ofW HT_.out HW_.out (by kernel_rfl)) (fun _ _ _ h => h) (Or.inl ⟨by rfl, ?_⟩) hHeld ?_ ?_
           rotate_left
           ·intro w' s0
            go_simp
            with_reducible rfl
           rotate_left
           ·simp only [Act.put, sTA, sC0, sCS, i64_w, i32_w]
            rfl
           refine pureq (i := 15) (N := some 33) HT_.out rfl rfl ?_
           refine pureq (i := 20) (N := some 38) HT_.out rfl rfl ?_
           refine pureq (i := 21) (N := some 39) HT_.out rfl rfl ?_
           refine pureq (i := 22) (N := some 40) HT_.out rfl rfl ?_
           refine last_ (i := 23) (N := none) #[true, true, true, true, true, true, true, true, true, true, true, true, true, true, true, true, true, true, true, true, true, true, true, true] rfl rfl (one_of HT_.out (by kernel_rfl)) (by decide) (fun K hK => ?_)
           refine skip_ (w1 := ?_) (by rfl) rfl ?_ ?_
           rotate_left
           ·go_simp
            rfl
           refine hK.out _ _ ?_
           clear hK K
           refine done_ (done_of HT_.out (by kernel_rfl)) ?_
           try go_wp2
           go_roundg k1
           case measure => have := HK1.out; omega
           case rel => exact ⟨(y106), (wrap64 (x4_1 + 1)), (by first | rfl | (simp; done) | (simp [*]; done)), H', ⟨by have := HK1.out; omega⟩, ⟨Kd.R_up HQ21.out⟩, ⟨bU HB.out⟩⟩
          ·rw [if_neg c17] at H
           exact absurd H (by simp)
         ·rw [if_neg c14] at H
          exact absurd H (by simp)
        ·rw [if_neg c13] at H
         exact absurd H (by simp)
       ·rw [if_neg c11] at H
        exact absurd H (by simp)
      ·rw [if_neg c10] at H
       exact absurd H (by simp)
     ·rw [if_neg c8] at H
      have c8b0 := decide_eq_false c8
      clear c8
      obtain rfl := Option.some.inj H
      go_wp2
      go_ret
      exact ⟨_, by first | rfl | (simp [errW_none, errW_some] <;> rfl) | (simp only [← hji3]; first | rfl | (simp [errW_none, errW_some] <;> rfl)) | (simp [*, errW_none, errW_some] <;> rfl), Kd.R_up HO_3.out, bU HB.out⟩
  ·rw [if_neg c5] at H
   exact absurd H (by simp)
 ·rw [if_neg c4] at H
  exact absurd H (by simp)

/-! ### insolvencyref1_strip: function 81 -/
def insolvencyref1_strip.l0 : Nat → List Int → Int → Option (List Int)
 | 0, _, _ => none
 | k + 1, x0, x3 => if x3 > 0 then (if 0 ≤ (wrap64 (x3 - 1)) then (if (wrap64 (x3 - 1)) < (x0.length : Int) then (if (rd x0 (wrap64 (x3 - 1))) = 0 then (insolvencyref1_strip.l0 k x0 (wrap64 (x3 - 1))) else (if 0 ≤ x3 then (if x3 ≤ (x0.length : Int) then (some (x0.take (x3 : Int).toNat)) else (none)) else (none))) else (none)) else (none)) else (if 0 ≤ x3 then (if x3 ≤ (x0.length : Int) then (some (x0.take (x3 : Int).toNat)) else (none)) else (none))
def insolvencyref1_strip.f (k : Nat) (l0 : List Int) : Option (List Int) := insolvencyref1_strip.l0 k l0 (l0.length : Int)
theorem insolvencyref1_strip.mono_l : ∀ k, (∀ y0 y1, LeO (insolvencyref1_strip.l0 k y0 y1) (insolvencyref1_strip.l0 (k + 1) y0 y1))
 | 0 => fun _ _ r h => by simp [insolvencyref1_strip.l0] at h
 | k + 1 => by
  have ih0 := insolvencyref1_strip.mono_l k
  ·intro y0 y1
   unfold insolvencyref1_strip.l0
   repeat' first
   | (with_reducible exact ih0 _ _)
   | (with_reducible exact LeO.refl _)
   | (with_reducible exact LeO.none _)
   | (with_reducible refine LeO.ite ?_ ?_)
   | (with_reducible refine LeO.bind ?_ (fun _ => ?_))
   | exact LeO.none _
   | refine LeO.ite ?_ ?_
   | refine LeO.bind ?_ (fun _ => ?_)
theorem insolvencyref1_strip.mono : ∀ a0 k, LeO (insolvencyref1_strip.f k a0) (insolvencyref1_strip.f (k + 1) a0) := by
 intro a0 k
 have ih0 := insolvencyref1_strip.mono_l k
 unfold insolvencyref1_strip.f
 repeat' first
   | (with_reducible exact ih0 _ _)
   | (with_reducible exact LeO.refl _)
   | (with_reducible exact LeO.none _)
   | (with_reducible refine LeO.ite ?_ ?_)
   | (with_reducible refine LeO.bind ?_ (fun _ => ?_))
   | exact LeO.none _
   | refine LeO.ite ?_ ?_
   | refine LeO.bind ?_ (fun _ => ?_)
set_option maxHeartbeats 8000000 in
set_option maxRecDepth 100000 in
theorem insolvencyref1_strip.calls (k : Nat) (P0_ : Nat → Prop) (A0 : Option Addr) (c0 : Nat) (l0 : List Int) (r : List Int) (w : World) (hs0 : Kd.V (Kd.int .u32) 86 w w.heap.size (fun k_ => P0_ k_) (.slice A0 l0.length c0) l0) (h : insolvencyref1_strip.f k l0 = some r) :
  Calls Tryd.prog 81 #[.slice A0 l0.length c0] w fun e w' => ∃ v0_ : Value, e = .returned (v0_) ∧ Kd.V (Kd.int .u32) 86 w' w.heap.size (fun k_ => (P0_ k_ ∨ w.heap.size ≤ k_)) v0_ r ∧ Below w.heap.size w w' := by
 have HO0 := aM (show Kd.V (Kd.int .u32) 86 w w.heap.size (fun k_ => (P0_ k_ ∨ w.heap.size ≤ k_)) (.slice A0 l0.length c0) l0 from Kd.V_mono hs0 (fun k_ hk => .inl hk))
 have HB := aM (Below.refl w.heap.size w)
 have H : (insolvencyref1_strip.l0 k l0 (l0.length : Int)) = some r := h
 clear h
 have H' := Aside0.mk H
 clear H
 go_enter Tryd.func81, Tryd.ntmps81
 go_wp2
 go_loopg [3] k (fun kq v3 w' => ∃ (x3_1 : Int), v3 = .int .i64 x3_1 ∧ Aside0 (insolvencyref1_strip.l0 kq l0 x3_1 = some r) ∧ Aside0 (kq ≤ k) ∧ Aside0 (Kd.V (Kd.int .u32) 86 w' w.heap.size (fun k_ => (P0_ k_ ∨ w.heap.size ≤ k_)) (.slice A0 l0.length c0) l0) ∧ Aside0 (Below w.heap.size w w'))
 case atStart => exact ⟨((l0.length : Int)), (by first | rfl | (simp; done) | (simp [*]; done)), H', ⟨Nat.le_refl _⟩, ⟨Kd.V_up HO0.out⟩, ⟨bU HB.out⟩⟩
 case round =>
  clear H'
  obtain ⟨x3_1, rfl, HA, HK1, HO_0, HB⟩ := hrel
  cases gk with
  | zero => exact absurd HA.out (by simp [insolvencyref1_strip.l0])
  | succ k1 =>
   have H := HA.out
   clear HA
   simp only [insolvencyref1_strip.l0] at H
   by_cases c2 : x3_1 > 0
   ·rw [if_pos c2] at H
    have c2b0 : decide (0 < x3_1) = true := decide_eq_true c2
    clear c2
    obtain ⟨ji3, hji3⟩ : ∃ j_ : Int, (wrap64 (x3_1 - 1)) = j_ := ⟨_, rfl⟩
    replace H : (if 0 ≤ (ji3) then (if (ji3) < (l0.length : Int) then (if (rd l0 (ji3)) = 0 then (insolvencyref1_strip.l0 k1 l0 ji3) else (if 0 ≤ x3_1 then (if x3_1 ≤ (l0.length : Int) then (some (l0.take (x3_1 : Int).toNat)) else (none)) else (none))) else (none)) else (none)) = some r := by first | (rw [hji3] at H; exact H) | (simp only [hji3] at H ⊢; exact H)
    have hji3w : (IntKind.i64.wrap (x3_1 - 1)) = ji3 := (i64_w _).trans hji3
    by_cases c4 : 0 ≤ (ji3)
    ·rw [if_pos c4] at H
     have c4b0 := decide_eq_true c4
     clear c4
     by_cases c5 : (ji3) < (l0.length : Int)
     ·rw [if_pos c5] at H
      have c5b0 := decide_eq_true c5
      clear c5
      by_cases c6 : (rd l0 (ji3)) = 0
      ·rw [if_pos c6] at H
       have c6b0 : ((rd l0 (ji3)) == 0) = true := beq_iff_eq.mpr c6
       have c6b1 : ((rd l0 (ji3)) != 0) = false := bne_eq_false_iff_eq.mpr c6
       clear c6
       have H' := Aside0.mk H
       clear H
       have p107 : 0 ≤ ((ji3) : Int) := oD
       have q107 : (ji3) < (l0.length : Int) := oD
       obtain ⟨ad107, e107, hx107_0⟩ := Kd.at_int (Kd.V_reads' HO_0.out).2.2 (ji3) p107 q107
       cases e107
       replace p107 := eq_true p107
       replace q107 := eq_true q107
       go_wp2
       go_roundg k1
       case measure => have := HK1.out; omega
       case rel => exact ⟨(ji3), (by first | rfl | (simp; done) | (simp only [← hji3] <;> (first | rfl | simp)) | (simp [*]; done)), H', ⟨by have := HK1.out; omega⟩, ⟨Kd.V_up HO_0.out⟩, ⟨bU HB.out⟩⟩
      ·rw [if_neg c6] at H
       have c6b0 : ((rd l0 (ji3)) == 0) = false := beq_eq_false_iff_ne.mpr c6
       have c6b1 : ((rd l0 (ji3)) != 0) = true := bne_iff_ne.mpr c6
       by_cases c7 : 0 ≤ x3_1
       ·rw [if_pos c7] at H
        have c7b0 := eq_true c7
        have c7b1 := decide_eq_true c7
        clear c7
        by_cases c8 : x3_1 ≤ (l0.length : Int)
        ·rw [if_pos c8] at H
         have c8b0 := eq_true c8
         have c8b1 := decide_eq_true c8
         clear c8
         obtain ⟨y108, hy108⟩ : ∃ y_ : List Int, y_ = (l0.take (x3_1 : Int).toNat) := ⟨_, rfl⟩
         replace H : (some y108) = some r := by first | (rw [hy108]; with_reducible exact H) | (have H2_ := (Option.bind_some _ _).symm.trans H; rw [hy108]; with_reducible exact H2_) | (have H2_ := (Option.bind_some _ _).symm.trans H; with_reducible exact H2_) | with_reducible exact H | (rw [hy108]; exact H) | exact H
         have Ny108 := Aside0.mk hy108
         clear hy108
         obtain rfl := Option.some.inj H
         have p107 : 0 ≤ ((ji3) : Int) := oD
         have q107 : (ji3) < (l0.length : Int) := oD
         obtain ⟨ad107, e107, hx107_0⟩ := Kd.at_int (Kd.V_reads' HO_0.out).2.2 (ji3) p107 q107
         cases e107
         replace p107 := eq_true p107
         replace q107 := eq_true q107
         have q9 : (x3_1 : Int) ≤ ((l0.length : Int) : Int) := oD
         obtain ⟨i09, hi09, _, hsz9, _⟩ := info_parts info86
         have hroom9 : l0.length ≤ c0 := (Kd.V_reads' HO_0.out).2.1
         have hC9 : Kd.F (Kd.int .u32) _ _ (some ad107) l0.length l0 := (Kd.V_at (base := w.heap.size) HO_0.out).2.2
         have hcut9 := cut_to (P := Tryd.prog) 83 86 .i64 Tryd.underlying83 hi09 (some ad107) l0.length c0 x3_1 (oD) q9 hroom9
         have hr9 := Kd.F_take (m := (x3_1 : Int).toNat) hC9 (by omega)
         have hy9 : y108.length = (x3_1 : Int).toNat := (by rw [Ny108.out, List.length_take]; omega)
         rw [← Ny108.out] at hr9
         rw [← hy9] at hcut9
         have HO112 := aM (show Kd.V (Kd.int .u32) 86 _ w.heap.size _ (.slice (some ad107) y108.length c0) y108 from Kd.V_mk (by omega) hr9)
         have HC112 := aM (show y108.length ≤ c0 from by omega)
         clear hr9 hC9 hroom9 hi09 hsz9
         have KY9 := Aside0.mk hy9
         clear hy9
         replace q9 := eq_true q9
         go_wp2
         go_ret
         exact ⟨_, by first | rfl | (simp [errW_none, errW_some] <;> rfl) | (simp only [← hji3]; first | rfl | (simp [errW_none, errW_some] <;> rfl)) | (simp [*, errW_none, errW_some] <;> rfl), Kd.V_up HO112.out, bU HB.out⟩
        ·rw [if_neg c8] at H
         exact absurd H (by simp)
       ·rw [if_neg c7] at H
        exact absurd H (by simp)
     ·rw [if_neg c5] at H
      exact absurd H (by simp)
    ·rw [if_neg c4] at H
     exact absurd H (by simp)
   ·rw [if_neg c2] at H
    have c2b0 : decide (0 < x3_1) = false := decide_eq_false c2
    clear c2
    by_cases c10 : 0 ≤ x3_1
    ·rw [if_pos c10] at H
     have c10b0 := eq_true c10
     have c10b1 := decide_eq_true c10
     clear c10
     by_cases c11 : x3_1 ≤ (l0.length : Int)
     ·rw [if_pos c11] at H
      have c11b0 := eq_true c11
      have c11b1 := decide_eq_true c11
      clear c11
      obtain ⟨y113, hy113⟩ : ∃ y_ : List Int, y_ = (l0.take (x3_1 : Int).toNat) := ⟨_, rfl⟩
      replace H : (some y113) = some r := by first | (rw [hy113]; with_reducible exact H) | (have H2_ := (Option.bind_some _ _).symm.trans H; rw [hy113]; with_reducible exact H2_) | (have H2_ := (Option.bind_some _ _).symm.trans H; with_reducible exact H2_) | with_reducible exact H | (rw [hy113]; exact H) | exact H
      have Ny113 := Aside0.mk hy113
      clear hy113
      obtain rfl := Option.some.inj H
      have q12 : (x3_1 : Int) ≤ ((l0.length : Int) : Int) := oD
      obtain ⟨i012, hi012, _, hsz12, _⟩ := info_parts info86
      have hroom12 : l0.length ≤ c0 := (Kd.V_reads' HO_0.out).2.1
      have hC12 : Kd.F (Kd.int .u32) _ _ A0 l0.length l0 := (Kd.V_at (base := w.heap.size) HO_0.out).2.2
      have hcut12 := cut_to (P := Tryd.prog) 83 86 .i64 Tryd.underlying83 hi012 A0 l0.length c0 x3_1 (oD) q12 hroom12
      have hr12 := Kd.F_take (m := (x3_1 : Int).toNat) hC12 (by omega)
      have hy12 : y113.length = (x3_1 : Int).toNat := (by rw [Ny113.out, List.length_take]; omega)
      rw [← Ny113.out] at hr12
      rw [← hy12] at hcut12
      have HO117 := aM (show Kd.V (Kd.int .u32) 86 _ w.heap.size _ (.slice A0 y113.length c0) y113 from Kd.V_mk (by omega) hr12)
      have HC117 := aM (show y113.length ≤ c0 from by omega)
      clear hr12 hC12 hroom12 hi012 hsz12
      have KY12 := Aside0.mk hy12
      clear hy12
      replace q12 := eq_true q12
      go_wp2
      go_ret
      exact ⟨_, by first | rfl | (simp [errW_none, errW_some] <;> rfl) | (simp [*, errW_none, errW_some] <;> rfl), Kd.V_up HO117.out, bU HB.out⟩
     ·rw [if_neg c11] at H
      exact absurd H (by simp)
    ·rw [if_neg c10] at H
     exact absurd H (by simp)

/-! ### insolvencyref1_text: function 70 -/
def insolvencyref1_text.l0 : Nat → List Int → List Int → Int → Option (ByteArray)
 | 0, _, _, _ => none
 | k + 1, x0, x3, x4 => if x4 ≥ 0 then (if 0 ≤ x4 then (if x4 < (x0.length : Int) then ((some (([((rd x0 x4) / 16777216) % 256, ((rd x0 x4) / 65536) % 256, ((rd x0 x4) / 256) % 256, (rd x0 x4) % 256] : List Int) : List Int)).bind fun y125 => (if x3.length + y125.length < 140737488355328 then (insolvencyref1_text.l0 k x0 (x3 ++ y125) (wrap64 (x4 - 1))) else (none))) else (none)) else (none)) else ((insolvencyref1_Normalize.f k (strOfNums x3)).bind fun t131 => (some t131))
def insolvencyref1_text.f (k : Nat) (l0 : List Int) : Option (ByteArray) := (insolvencyref1_strip.f k l0).bind fun t118 => (if 0 ≤ (wrap64 (4 * (t118.length : Int))) then (if (wrap64 (4 * (t118.length : Int)) : Int).toNat ≤ 281474976710656 then (insolvencyref1_text.l0 k t118 (([] : List Int)) (wrap64 ((t118.length : Int) - 1))) else (none)) else (none))
theorem insolvencyref1_text.mono_l : ∀ k, (∀ y0 y1 y2, LeO (insolvencyref1_text.l0 k y0 y1 y2) (insolvencyref1_text.l0 (k + 1) y0 y1 y2))
 | 0 => fun _ _ _ r h => by simp [insolvencyref1_text.l0] at h
 | k + 1 => by
  have ih0 := insolvencyref1_text.mono_l k
  ·intro y0 y1 y2
   unfold insolvencyref1_text.l0
   repeat' first
   | (with_reducible exact ih0 _ _ _)
   | (with_reducible exact insolvencyref1_Normalize.mono _ _)
   | (with_reducible exact insolvencyref1_strip.mono _ _)
   | (with_reducible exact LeO.refl _)
   | (with_reducible exact LeO.none _)
   | (with_reducible refine LeO.ite ?_ ?_)
   | (with_reducible refine LeO.bind ?_ (fun _ => ?_))
   | exact LeO.none _
   | refine LeO.ite ?_ ?_
   | refine LeO.bind ?_ (fun _ => ?_)
theorem insolvencyref1_text.mono : ∀ a0 k, LeO (insolvencyref1_text.f k a0) (insolvencyref1_text.f (k + 1) a0) := by
 intro a0 k
 have ih0 := insolvencyref1_text.mono_l k
 unfold insolvencyref1_text.f
 repeat' first
   | (with_reducible exact ih0 _ _ _)
   | (with_reducible exact insolvencyref1_Normalize.mono _ _)
   | (with_reducible exact insolvencyref1_strip.mono _ _)
   | (with_reducible exact LeO.refl _)
   | (with_reducible exact LeO.none _)
   | (with_reducible refine LeO.ite ?_ ?_)
   | (with_reducible refine LeO.bind ?_ (fun _ => ?_))
   | exact LeO.none _
   | refine LeO.ite ?_ ?_
   | refine LeO.bind ?_ (fun _ => ?_)
set_option maxHeartbeats 8000000 in
set_option maxRecDepth 100000 in
theorem insolvencyref1_text.calls (k : Nat) (A0 : Option Addr) (c0 : Nat) (l0 : List Int) (r : ByteArray) (w : World) (hr0 : Kd.C (Kd.int .u32) w A0 l0.length l0) (hc0 : l0.length ≤ c0) (h : insolvencyref1_text.f k l0 = some r) :
  Calls Tryd.prog 70 #[.slice A0 l0.length c0] w fun e w' => e = .returned (.string r) ∧ Below w.heap.size w w' := by
 have HR0 := Aside0.mk hr0
 have HC0 := Aside0.mk hc0
 clear hr0 hc0
 have HB := aM (Below.refl w.heap.size w)
 have H : ((insolvencyref1_strip.f k l0).bind fun t118 => (if 0 ≤ (wrap64 (4 * (t118.length : Int))) then (if (wrap64 (4 * (t118.length : Int)) : Int).toNat ≤ 281474976710656 then (insolvencyref1_text.l0 k t118 (([] : List Int)) (wrap64 ((t118.length : Int) - 1))) else (none)) else (none))) = some r := h
 clear h
 replace H := bE H
 obtain ⟨t118, A20, H⟩ := H
 replace H : (if 0 ≤ (wrap64 (4 * (t118.length : Int))) then (if (wrap64 (4 * (t118.length : Int)) : Int).toNat ≤ 281474976710656 then (insolvencyref1_text.l0 k t118 (([] : List Int)) (wrap64 ((t118.length : Int) - 1))) else (none)) else (none)) = some r := H
 have A2 := Aside0.mk A20
 clear A20
 obtain ⟨ji3, hji3⟩ : ∃ j_ : Int, (wrap64 (4 * (t118.length : Int))) = j_ := ⟨_, rfl⟩
 replace H : (if 0 ≤ (ji3) then (if (ji3 : Int).toNat ≤ 281474976710656 then (insolvencyref1_text.l0 k t118 (([] : List Int)) (wrap64 ((t118.length : Int) - 1))) else (none)) else (none)) = some r := by first | (rw [hji3] at H; exact H) | (simp only [hji3] at H ⊢; exact H)
 (try rw [hji3] at A2)
 have hji3w : (IntKind.i64.wrap (4 * (t118.length : Int))) = ji3 := (i64_w _).trans hji3
 by_cases c4 : 0 ≤ (ji3)
 ·rw [if_pos c4] at H
  have c4b0 := eq_true c4
  have c4b1 := decide_eq_true c4
  clear c4
  by_cases c5 : (ji3 : Int).toNat ≤ 281474976710656
  ·rw [if_pos c5] at H
   have c5b0 := eq_true c5
   have c5b1 := decide_eq_true c5
   clear c5
   obtain ⟨y121, hy121⟩ : ∃ y_ : List Int, y_ = (([] : List Int)) := ⟨_, rfl⟩
   replace H : (insolvencyref1_text.l0 k t118 y121 (wrap64 ((t118.length : Int) - 1))) = some r := by first | (rw [hy121]; with_reducible exact H) | (have H2_ := (Option.bind_some _ _).symm.trans H; rw [hy121]; with_reducible exact H2_) | (have H2_ := (Option.bind_some _ _).symm.trans H; with_reducible exact H2_) | with_reducible exact H | (rw [hy121]; exact H) | exact H
   have Ny121 := Aside0.mk hy121
   clear hy121
   have H' := Aside0.mk H
   clear H
   go_enter Tryd.func70, Tryd.ntmps70
   go_wp2_with (first | ((with_reducible refine gate_callee (f := 81) rfl ?_); refine goesLq (some 7) rfl rfl Tryd.func81 #[.slice A0 l0.length c0] rfl ?_; (with_reducible refine (insolvencyref1_strip.calls k (fun k_ => k_ < w.heap.size) _ _ l0 t118 _ ?side1 A2.out).mono ?_); (case side1 => exact Kd.V_mk HC0.out (Kd.F_below (Kd.C_F (Kd.heap_int .u32) HR0.out) (bU HB.out))); rintro e w6 ⟨v119, rfl, ho0, hb⟩; refine ⟨_, rfl, ?_⟩; have n0_ := aM (Kd.V_lower (Kd.V_mono (ok' := fun k_ => True) ho0 (fun k_ hk_ => trivial)) (below_size (bU HB.out))); have n1_ := aM (below_step (bU HB.out) hb); clear HB; have HO120 := n0_; have HB := n1_; clear n0_ n1_; (try clear hb); (try clear hb2); (try clear hk); (try clear hi); (try clear ho0); obtain ⟨Ao7, co7, eo7⟩ := Kd.V_slice HO120.out; subst eo7) | ((with_reducible refine gate_dst (N := 11) rfl ?_); refine Kd.R_makecap (Kd.int .u8) _ 5 rfl (N := 11) rfl 99 _ _ rfl ji3 rfl rfl Tryd.underlying99 (.int .u8 0) 1 info5 rfl (by decide) (by omega) 0 (ok := fun _ => True) (okp := fun _ => True) rfl (fun _ hk => hk) trivial (oD) (Nat.le_trans (Nat.mul_le_mul_right _ (oD : ji3.toNat ≤ 281474976710656)) (by omega)) (Below.refl _ _) (Nat.le_refl _) ?_; intro v122 w8 ho9 hb hg_ hnew_; clear hg_ hnew_; (first | rw [← Ny121.out] at ho9 | (simp only [Int.reduceToNat] at ho9; rw [← Ny121.out] at ho9)); have n0_ := aM (Kd.V_elder' (Kd.V_up HO120.out) (Kd.R_base ho9) hb); have n1_ := aM (Kd.R_lower ho9 (below_size (bU HB.out))); have n2_ := aM (below_step (bU HB.out) hb); clear HO120; clear HB; have HO120 := n0_; have HO123 := n1_; have HB := n2_; clear n0_ n1_ n2_; clear hb ho9))
   go_loopg [3, 4] k (fun kq v3 v4 w' => ∃ (x3_1 : List Int) (x4_1 : Int), v4 = .int .i64 x4_1 ∧ Aside0 (insolvencyref1_text.l0 kq t118 x3_1 x4_1 = some r) ∧ Aside0 (kq ≤ k) ∧ Aside0 (Kd.V (Kd.int .u32) 86 w' w.heap.size (fun k_ => some k_ ≠ (v3 : Value).ownBlock) (.slice Ao7 t118.length co7) t118) ∧ Aside0 (Kd.R (Kd.int .u8) 5 w' w.heap.size (fun _ => True) v3 x3_1) ∧ Aside0 (Below w.heap.size w w'))
   case atStart => exact ⟨(y121), (wrap64 ((t118.length : Int) - 1)), (by first | rfl | (simp; done) | (simp [*]; done)), H', ⟨Nat.le_refl _⟩, ⟨Kd.V_up (Kd.V_mono HO120.out (fun _ hk => hk.2))⟩, ⟨Kd.R_up HO123.out⟩, ⟨bU HB.out⟩⟩
   case round =>
    clear H'
    (try clear p2); (try clear c4); (try clear c4b0); (try clear c4b1); (try clear c5); (try clear c5b0); (try clear c5b1); (try clear p6); (try clear c7); (try clear c8)
    obtain ⟨x3_1, x4_1, rfl, HA, HK1, HO_0, HO_3, HB⟩ := hrel
    cases gk with
    | zero => exact absurd HA.out (by simp [insolvencyref1_text.l0])
    | succ k1 =>
     have H := HA.out
     clear HA
     simp only [insolvencyref1_text.l0] at H
     by_cases c10 : x4_1 ≥ 0
     ·rw [if_pos c10] at H
      have c10b0 : decide (0 ≤ x4_1) = true := decide_eq_true c10
      clear c10
      by_cases c11 : 0 ≤ x4_1
      ·rw [if_pos c11] at H
       have c11b0 := decide_eq_true c11
       clear c11
       by_cases c12 : x4_1 < (t118.length : Int)
       ·rw [if_pos c12] at H
        have c12b0 := decide_eq_true c12
        clear c12
        obtain ⟨y125, hy125⟩ : ∃ y_ : List Int, y_ = (([((rd t118 x4_1) / 16777216) % 256, ((rd t118 x4_1) / 65536) % 256, ((rd t118 x4_1) / 256) % 256, (rd t118 x4_1) % 256] : List Int)) := ⟨_, rfl⟩
        replace H : (if x3_1.length + y125.length < 140737488355328 then (insolvencyref1_text.l0 k1 t118 (x3_1 ++ y125) (wrap64 (x4_1 - 1))) else (none)) = some r := by first | (rw [hy125]; with_reducible exact H) | (have H2_ := (Option.bind_some _ _).symm.trans H; rw [hy125]; with_reducible exact H2_) | (have H2_ := (Option.bind_some _ _).symm.trans H; with_reducible exact H2_) | with_reducible exact H | (rw [hy125]; exact H) | exact H
        have Ny125 := Aside0.mk hy125
        clear hy125
        by_cases c13 : x3_1.length + y125.length < 140737488355328
        ·rw [if_pos c13] at H
         have LMc13 := Aside0.mk c13
         clear c13
         obtain ⟨y128, hy128⟩ : ∃ y_ : List Int, y_ = (x3_1 ++ y125) := ⟨_, rfl⟩
         replace H : (insolvencyref1_text.l0 k1 t118 y128 (wrap64 (x4_1 - 1))) = some r := by first | (rw [hy128]; with_reducible exact H) | (have H2_ := (Option.bind_some _ _).symm.trans H; rw [hy128]; with_reducible exact H2_) | (have H2_ := (Option.bind_some _ _).symm.trans H; with_reducible exact H2_) | with_reducible exact H | (rw [hy128]; exact H) | exact H
         have Ny128 := Aside0.mk hy128
         clear hy128
         have H' := Aside0.mk H
         clear H
         have p124 : 0 ≤ (x4_1 : Int) := oD
         have q124 : x4_1 < (t118.length : Int) := oD
         obtain ⟨ad124, e124, hx124_0⟩ := Kd.at_int (Kd.V_reads' HO_0.out).2.2 x4_1 p124 q124
         cases e124
         replace p124 := eq_true p124
         replace q124 := eq_true q124
         go_wp2_with (first | ((with_reducible refine gate_dst (N := 35) rfl ?_); refine Kd.R_lit (Kd.int .u8) _ 5 ?hg (N := 35) ?hd (xs := ([((rd t118 x4_1) / 16777216) % 256, ((rd t118 x4_1) / 65536) % 256, ((rd t118 x4_1) / 256) % 256, (rd t118 x4_1) % 256] : List Int)) (inner := [.int .u8 (((rd t118 x4_1) / 16777216) % 256), .int .u8 (((rd t118 x4_1) / 65536) % 256), .int .u8 (((rd t118 x4_1) / 256) % 256), .int .u8 ((rd t118 x4_1) % 256)]) (ok := fun _ => True) (okp := fun _ => True) ?hr ?hp (fun _ hk => hk) trivial (Below.refl _ _) (Nat.le_refl _) (by simp) ?_; (case hd => rfl); (case hg => rfl); (case hr => first | (go_simp; done) | (go_simp; rfl)); (case hp => exact (Reps.one (show Kd.M (Kd.int .u8) _ _ _ (((rd t118 x4_1) / 16777216) % 256) [.int .u8 (((rd t118 x4_1) / 16777216) % 256)] from rfl) (Reps.one (show Kd.M (Kd.int .u8) _ _ _ (((rd t118 x4_1) / 65536) % 256) [.int .u8 (((rd t118 x4_1) / 65536) % 256)] from rfl) (Reps.one (show Kd.M (Kd.int .u8) _ _ _ (((rd t118 x4_1) / 256) % 256) [.int .u8 (((rd t118 x4_1) / 256) % 256)] from rfl) (Reps.one (show Kd.M (Kd.int .u8) _ _ _ ((rd t118 x4_1) % 256) [.int .u8 ((rd t118 x4_1) % 256)] from rfl) (Reps.none _ _)))))); intro v126 w14 ho15 hb hg_ hnew_; clear hg_ hnew_; (first | rw [← Ny125.out] at ho15 | (simp only [Int.reduceToNat] at ho15; rw [← Ny125.out] at ho15)); have n0_ := aM (Kd.V_elder' (Kd.V_up HO_0.out) (Kd.R_base ho15) hb); have n1_ := aM (Kd.R_elder' (Kd.R_up HO_3.out) (Kd.R_base ho15) hb); have n2_ := aM (Kd.R_lower (Kd.R_new' ho15 (Kd.R_lt (Kd.R_up HO_3.out))) (below_size (bU HB.out))); have n3_ := aM (below_step (bU HB.out) hb); clear HO_0; clear HO_3; clear HB; have HO_0 := n0_; have HO_3 := n1_; have HO127 := n2_; have HB := n3_; clear n0_ n1_ n2_ n3_; clear hb ho15; obtain ⟨Ao17, co17, eo17⟩ := Kd.R_slice HO127.out; subst eo17) | ((with_reducible refine gate_builtin (b := .append) (xs := #[.tmp 23, .tmp 35]) rfl ?_); at_builtin; refine Kd.R_append_rows (Kd.int .u8) (w0 := w) w.heap.size rfl (.tmp 23) (.tmp 35) 99 5 (.int .u8 0) 1 rfl Tryd.underlying99 info5 rfl (by decide) (by omega) u3 x3_1 y125 _ _ _ (fun k_ => some k_ ≠ (.slice Ao17 y125.length co17 : Value).ownBlock) (fun _ => False) rfl rfl ?aO ?aR (fun _ _ h => h) (fun _ h => h.elim) ?aF ?aB ?aS ?aL ?_; (case aR => exact Kd.C_up (Kd.R_reads' HO127.out).2.2); (case aB => exact (bU HB.out)); (case aF => exact (fun k_ hk => Kd.fresh' (Kd.R_lt (Kd.R_up HO127.out)) k_ hk)); (case aO => exact (Kd.R_up (Kd.R_mono HO_3.out (fun _ hk => hk.2)))); (case aS => exact (below_size (bU HB.out))); (case aL => have := LMc13.out; omega); intro v129 w16 ho hb hg hat; rw [← Ny128.out] at ho; have n0_ := aM (Kd.V_afterv (ok := (fun k_ => some k_ ≠ (.slice Ao17 y125.length co17 : Value).ownBlock)) (Kd.V_up (Kd.V_mono HO_0.out (fun _ hk => ⟨hk.2, hk.1⟩))) hg hat); have n1_ := aM (Kd.R_after (ok := (fun _ => True)) (Kd.R_up HO127.out) hg hat); have n2_ := aM (hb); have n3_ := aM (ho); clear HO_0; clear HO127; clear HB; clear HO_3; have HO_0 := n0_; have HO127 := n1_; have HB := n2_; have HO130 := n3_; clear n0_ n1_ n2_ n3_; clear ho hb hg hat))
         go_roundg k1
         case measure => have := HK1.out; omega
         case rel => exact ⟨(y128), (wrap64 (x4_1 - 1)), (by first | rfl | (simp; done) | (simp [*]; done)), H', ⟨by have := HK1.out; omega⟩, ⟨Kd.V_up (Kd.V_mono HO_0.out (fun _ hk => hk.2))⟩, ⟨Kd.R_up (Kd.R_mono HO130.out (fun _ hk => trivial))⟩, ⟨bU HB.out⟩⟩
        ·rw [if_neg c13] at H
         exact absurd H (by simp)
       ·rw [if_neg c12] at H
        exact absurd H (by simp)
      ·rw [if_neg c11] at H
       exact absurd H (by simp)
     ·rw [if_neg c10] at H
      have c10b0 : decide (0 ≤ x4_1) = false := decide_eq_false c10
      clear c10
      replace H := bE H
      obtain ⟨t131, A180, H⟩ := H
      replace H : (some t131) = some r := H
      have A18 := Aside0.mk A180
      clear A180
      obtain rfl := Option.some.inj H
      have hcv19 := own_string (P := Tryd.prog) Tryd.underlying99 Tryd.underlying5 Tryd.underlying9 (Kd.own_of_R HO_3.out)
      go_wp2_with (first | ((with_reducible refine gate_callee (f := 79) rfl ?_); refine goesLq (some 39) rfl rfl Tryd.func79 #[.string (strOfNums x3_1)] rfl ?_; (with_reducible refine (insolvencyref1_Normalize.calls k1 (strOfNums x3_1) t131 _ A18.out).mono ?_); rintro e w' ⟨rfl, ⟨nd, rfl⟩⟩; refine ⟨_, rfl, ?_⟩))
      go_ret
      exact ⟨by first | rfl | (simp [errW_none, errW_some] <;> rfl) | (simp only [← hji3]; first | rfl | (simp [errW_none, errW_some] <;> rfl)) | (simp [*, errW_none, errW_some] <;> rfl), bU HB.out⟩
  ·rw [if_neg c5] at H
   exact absurd H (by simp)
 ·rw [if_neg c4] at H
  exact absurd H (by simp)

end Go.Proofs.YtjeamaahhpbbkaaDoor.PAll
