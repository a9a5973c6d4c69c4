-- PRINTED by a session's own changed print
import Derived.Test.YtjeamaahhpbbkaaDoorPAllx0
import Derived.Test.YtjeamaahhpbbkaaDoorPAllx3
namespace Go.Proofs.YtjeamaahhpbbkaaDoor.PAll
open Go.RowKit Go.Proofs.YtjeamaahhpbbkaaDoorW.PrintWords Go.Proofs.YtjeamaahhpbbkaaDoorW.PrintLast
set_option linter.unusedVariables false
set_option linter.unusedSimpArgs false

/-! ### strings_TrimLeft: function 72 -/
mutual
def strings_TrimLeft.j0 : Nat → ByteArray → ByteArray → Bool → Option (ByteArray)
 | 0, _, _, _ => none
 | k + 1, x0, x1, x12 => if x12 = true then (some x0) else (if (x1.size : Int) = 1 then (if 0 < (x1.size : Int) then (strings_TrimLeft.j1 k x0 x1 (decide ((bt x1 0) < 128))) else (none)) else (strings_TrimLeft.j1 k x0 x1 false))
def strings_TrimLeft.j1 : Nat → ByteArray → ByteArray → Bool → Option (ByteArray)
 | 0, _, _, _ => none
 | k + 1, x0, x1, x21 => if x21 = true then (if 0 < (x1.size : Int) then ((strings_trimLeftByte.f k x0 (bt x1 0)).bind fun t213 => (some t213)) else (none)) else (none)
end
def strings_TrimLeft.f (k : Nat) (a0 : ByteArray) (a1 : ByteArray) : Option (ByteArray) := if a0.toList = ([] : List UInt8) then (strings_TrimLeft.j0 k a0 a1 true) else (strings_TrimLeft.j0 k a0 a1 (a1.toList == ([] : List UInt8)))
theorem strings_TrimLeft.mono_l : ∀ k, (∀ y0 y1 y2, LeO (strings_TrimLeft.j0 k y0 y1 y2) (strings_TrimLeft.j0 (k + 1) y0 y1 y2)) ∧ (∀ y0 y1 y2, LeO (strings_TrimLeft.j1 k y0 y1 y2) (strings_TrimLeft.j1 (k + 1) y0 y1 y2))
 | 0 => ⟨fun _ _ _ r h => by simp [strings_TrimLeft.j0] at h, fun _ _ _ r h => by simp [strings_TrimLeft.j1] at h⟩
 | k + 1 => by
  obtain ⟨ih0, ih1⟩ := strings_TrimLeft.mono_l k
  refine ⟨?_, ?_⟩
  ·intro y0 y1 y2
   unfold strings_TrimLeft.j0
   repeat' first
   | (with_reducible exact ih0 _ _ _)
   | (with_reducible exact ih1 _ _ _)
   | (with_reducible exact strings_trimLeftByte.mono _ _ _)
   | (with_reducible exact LeO.refl _)
   | (with_reducible exact LeO.none _)
   | (with_reducible refine LeO.ite ?_ ?_)
   | (with_reducible refine LeO.bind ?_ (fun _ => ?_))
   | exact LeO.none _
   | refine LeO.ite ?_ ?_
   | refine LeO.bind ?_ (fun _ => ?_)
  ·intro y0 y1 y2
   unfold strings_TrimLeft.j1
   repeat' first
   | (with_reducible exact ih0 _ _ _)
   | (with_reducible exact ih1 _ _ _)
   | (with_reducible exact strings_trimLeftByte.mono _ _ _)
   | (with_reducible exact LeO.refl _)
   | (with_reducible exact LeO.none _)
   | (with_reducible refine LeO.ite ?_ ?_)
   | (with_reducible refine LeO.bind ?_ (fun _ => ?_))
   | exact LeO.none _
   | refine LeO.ite ?_ ?_
   | refine LeO.bind ?_ (fun _ => ?_)
theorem strings_TrimLeft.mono : ∀ a0 a1 k, LeO (strings_TrimLeft.f k a0 a1) (strings_TrimLeft.f (k + 1) a0 a1) := by
 intro a0 a1 k
 obtain ⟨ih0, ih1⟩ := strings_TrimLeft.mono_l k
 unfold strings_TrimLeft.f
 repeat' first
   | (with_reducible exact ih0 _ _ _)
   | (with_reducible exact ih1 _ _ _)
   | (with_reducible exact strings_trimLeftByte.mono _ _ _)
   | (with_reducible exact LeO.refl _)
   | (with_reducible exact LeO.none _)
   | (with_reducible refine LeO.ite ?_ ?_)
   | (with_reducible refine LeO.bind ?_ (fun _ => ?_))
   | exact LeO.none _
   | refine LeO.ite ?_ ?_
   | refine LeO.bind ?_ (fun _ => ?_)
set_option maxHeartbeats 8000000 in
set_option maxRecDepth 100000 in
theorem strings_TrimLeft.calls (k : Nat) (a0 : ByteArray) (a1 : ByteArray) (r : ByteArray) (w : World) (h : strings_TrimLeft.f k a0 a1 = some r) :
  Calls Tryd.prog 72 #[.string a0, .string a1] w fun e w' => e = .returned (.string r) ∧ Below w.heap.size w w' := by
 have HB := aM (Below.refl w.heap.size w)
 have H : (if a0.toList = ([] : List UInt8) then (strings_TrimLeft.j0 k a0 a1 true) else (strings_TrimLeft.j0 k a0 a1 (a1.toList == ([] : List UInt8)))) = some r := h
 clear h
 have HC3 := Aside0.mk H
 clear H
 go_enter Tryd.func72, Tryd.ntmps72
 go_upto_region 1 with (fail)
 go_cut [12] (fun v12 wc => ∃ (kq : Nat) (x12_2 : Bool), v12 = .bool x12_2 ∧ Aside0 (strings_TrimLeft.j0 kq a0 a1 x12_2 = some r) ∧ Aside0 (kq ≤ k) ∧ Aside0 (Below w.heap.size w wc))
 case first =>
  have H := HC3.out
  clear HC3
  by_cases c4 : a0.toList = ([] : List UInt8)
  ·rw [if_pos c4] at H
   have c4b0 : (a0.toList == ([] : List UInt8)) = true := beq_iff_eq.mpr c4
   have c4b1 : (a0.toList != ([] : List UInt8)) = false := bne_eq_false_iff_eq.mpr c4
   clear c4
   (first | rw [c4b0] | (simp only [i64_w, i32_w]; rw [c4b0]) | rw [c4b1] | skip)
   have H' := Aside0.mk H
   clear H
   go_wp2
   go_meet
   case rel => exact ⟨_, (true), (by first | rfl | (simp; done) | (simp [*]; done)), H', ⟨by first | omega | exact Nat.le_refl _⟩, ⟨bU HB.out⟩⟩
  ·rw [if_neg c4] at H
   have c4b0 : (a0.toList == ([] : List UInt8)) = false := beq_eq_false_iff_ne.mpr c4
   have c4b1 : (a0.toList != ([] : List UInt8)) = true := bne_iff_ne.mpr c4
   (first | rw [c4b0] | (simp only [i64_w, i32_w]; rw [c4b0]) | rw [c4b1] | skip)
   have H' := Aside0.mk H
   clear H
   go_wp2
   go_meet
   case rel => exact ⟨_, ((a1.toList == ([] : List UInt8))), (by first | rfl | (simp; done) | (simp [*]; done)), H', ⟨by first | omega | exact Nat.le_refl _⟩, ⟨bU HB.out⟩⟩
 case rest =>
  clear HC3
  (try clear p2); (try clear c4); (try clear c4b0); (try clear c4b1)
  obtain ⟨kq, x12_2, rfl, HA, HJ2, HB⟩ := hcut
  cases kq with
  | zero => exact absurd HA.out (by simp [strings_TrimLeft.j0])
  | succ kj2 =>
   have H := HA.out
   clear HA
   simp only [strings_TrimLeft.j0] at H
   by_cases c5 : x12_2 = true
   ·subst c5
    have H1 : (some a0) = some r := by rw [if_pos rfl] at H; exact H
    clear H
    have H := H1
    clear H1
    obtain rfl := Option.some.inj H
    go_wp2
    go_ret
    exact ⟨by first | rfl | (simp [errW_none, errW_some] <;> rfl) | (simp [*, errW_none, errW_some] <;> rfl), bU HB.out⟩
   ·replace c5 := Bool.eq_false_iff.mpr c5
    subst c5
    have H1 : (if (a1.size : Int) = 1 then (if 0 < (a1.size : Int) then (strings_TrimLeft.j1 kj2 a0 a1 (decide ((bt a1 0) < 128))) else (none)) else (strings_TrimLeft.j1 kj2 a0 a1 false)) = some r := by rw [if_neg (show ¬ (false = true) by decide)] at H; exact H
    clear H
    have H := H1
    clear H1
    have HC6 := Aside0.mk H
    clear H
    go_upto_region 3 with (fail)
    go_cut [21] (fun v21 wc => ∃ (kq : Nat) (x21_5 : Bool), v21 = .bool x21_5 ∧ Aside0 (strings_TrimLeft.j1 kq a0 a1 x21_5 = some r) ∧ Aside0 (kq ≤ kj2) ∧ Aside0 (Below w.heap.size w wc))
    case first =>
     have H := HC6.out
     clear HC6
     by_cases c7 : (a1.size : Int) = 1
     ·rw [if_pos c7] at H
      have c7b0 : ((a1.size : Int) == 1) = true := beq_iff_eq.mpr c7
      have c7b1 : ((a1.size : Int) != 1) = false := bne_eq_false_iff_eq.mpr c7
      clear c7
      (first | rw [c7b0] | (simp only [i64_w, i32_w]; rw [c7b0]) | rw [c7b1] | skip)
      by_cases c8 : 0 < (a1.size : Int)
      ·rw [if_pos c8] at H
       have c8b0 := decide_eq_true c8
       have c8b1 : decide (0 < a1.size) = true := decide_eq_true (by omega)
       clear c8
       have H' := Aside0.mk H
       clear H
       have p9 : 0 ≤ (0 : Int) := (by omega)
       have q9 : 0 < a1.size := (by have : (0 : Int) < (a1.size : Int) := oD; omega)
       have hx9 : ∀ h : 0 < a1.size, ((a1[0]'h).toNat : Int) = bt a1 0 := bt_at a1 0
       clear p9
       have qi9 : (0 < (a1.size : Int)) = True := eq_true (oD)
       replace q9 := eq_true q9
       go_wp2
       go_meet
       case rel => exact ⟨_, (decide ((bt a1 0) < 128)), (by first | rfl | (simp; done) | (simp [*]; done)), H', ⟨by have := HJ2.out; first | omega | exact Nat.le_refl _⟩, ⟨bU HB.out⟩⟩
      ·rw [if_neg c8] at H
       exact absurd H (by simp)
     ·rw [if_neg c7] at H
      have c7b0 : ((a1.size : Int) == 1) = false := beq_eq_false_iff_ne.mpr c7
      have c7b1 : ((a1.size : Int) != 1) = true := bne_iff_ne.mpr c7
      (first | rw [c7b0] | (simp only [i64_w, i32_w]; rw [c7b0]) | rw [c7b1] | skip)
      have H' := Aside0.mk H
      clear H
      go_wp2
      go_meet
      case rel => exact ⟨_, (false), (by first | rfl | (simp; done) | (simp [*]; done)), H', ⟨by have := HJ2.out; first | omega | exact Nat.le_refl _⟩, ⟨bU HB.out⟩⟩
    case rest =>
     clear HC6
     (try clear p2); (try clear c4); (try clear c4b0); (try clear c4b1); (try clear c5); (try clear c7); (try clear c7b0); (try clear c7b1); (try clear c8); (try clear c8b0); (try clear c8b1); (try clear p9); (try clear q9); (try clear hx9); (try clear qi9); (try clear p2); (try clear p9); (try clear q9)
     obtain ⟨kq, x21_5, rfl, HA, HJ5, HB⟩ := hcut
     cases kq with
     | zero => exact absurd HA.out (by simp [strings_TrimLeft.j1])
     | succ kj5 =>
      have H := HA.out
      clear HA
      simp only [strings_TrimLeft.j1] at H
      by_cases c10 : x21_5 = true
      ·subst c10
       have H1 : (if 0 < (a1.size : Int) then ((strings_trimLeftByte.f kj5 a0 (bt a1 0)).bind fun t213 => (some t213)) else (none)) = some r := by rw [if_pos rfl] at H; exact H
       clear H
       have H := H1
       clear H1
       by_cases c11 : 0 < (a1.size : Int)
       ·rw [if_pos c11] at H
        have c11b0 := decide_eq_true c11
        have c11b1 : decide (0 < a1.size) = true := decide_eq_true (by omega)
        clear c11
        replace H := bE H
        obtain ⟨t213, A130, H⟩ := H
        replace H : (some t213) = some r := H
        have A13 := Aside0.mk A130
        clear A130
        obtain rfl := Option.some.inj H
        have p12 : 0 ≤ (0 : Int) := (by omega)
        have q12 : 0 < a1.size := (by have : (0 : Int) < (a1.size : Int) := oD; omega)
        have hx12 : ∀ h : 0 < a1.size, ((a1[0]'h).toNat : Int) = bt a1 0 := bt_at a1 0
        clear p12
        have qi12 : (0 < (a1.size : Int)) = True := eq_true (oD)
        replace q12 := eq_true q12
        go_wp2_with (first | ((with_reducible refine gate_callee (f := 85) rfl ?_); refine goesLq (some 25) rfl rfl Tryd.func85 #[.string a0, .int .u8 (bt a1 0)] rfl ?_; (with_reducible refine (strings_trimLeftByte.calls kj5 a0 (bt a1 0) t213 _ A13.out).mono ?_); rintro e w' ⟨rfl, ⟨nd, rfl⟩⟩; refine ⟨_, rfl, ?_⟩))
        go_ret
        exact ⟨by first | rfl | (simp [errW_none, errW_some] <;> rfl) | (simp [*, errW_none, errW_some] <;> rfl), bU HB.out⟩
       ·rw [if_neg c11] at H
        exact absurd H (by simp)
      ·replace c10 := Bool.eq_false_iff.mpr c10
       subst c10
       have H1 : (none) = some r := by rw [if_neg (show ¬ (false = true) by decide)] at H; exact H
       clear H
       have H := H1
       clear H1
       exact absurd H (by simp)

/-! ### natural_Normalize: function 51 -/
def natural_Normalize.f (k : Nat) (a0 : ByteArray) : Option (ByteArray) := (strings_TrimLeft.f k a0 (⟨#[0]⟩ : ByteArray)).bind fun t214 => (some t214)
theorem natural_Normalize.mono : ∀ a0 k, LeO (natural_Normalize.f k a0) (natural_Normalize.f (k + 1) a0) := by
 intro a0 k
 unfold natural_Normalize.f
 repeat' first
   | (with_reducible exact strings_TrimLeft.mono _ _ _)
   | (with_reducible exact LeO.refl _)
   | (with_reducible exact LeO.none _)
   | (with_reducible refine LeO.ite ?_ ?_)
   | (with_reducible refine LeO.bind ?_ (fun _ => ?_))
   | exact LeO.none _
   | refine LeO.ite ?_ ?_
   | refine LeO.bind ?_ (fun _ => ?_)
set_option maxHeartbeats 8000000 in
set_option maxRecDepth 100000 in
theorem natural_Normalize.calls (k : Nat) (a0 : ByteArray) (r : ByteArray) (w : World) (h : natural_Normalize.f k a0 = some r) :
  Calls Tryd.prog 51 #[.string a0] w fun e w' => e = .returned (.string r) ∧ Below w.heap.size w w' := by
 have HB := aM (Below.refl w.heap.size w)
 have H : ((strings_TrimLeft.f k a0 (⟨#[0]⟩ : ByteArray)).bind fun t214 => (some t214)) = some r := h
 clear h
 replace H := bE H
 obtain ⟨t214, A20, H⟩ := H
 replace H : (some t214) = some r := H
 have A2 := Aside0.mk A20
 clear A20
 obtain rfl := Option.some.inj H
 go_enter Tryd.func51, Tryd.ntmps51
 go_wp2_with (first | ((with_reducible refine gate_callee (f := 72) rfl ?_); refine goesLq (some 4) rfl rfl Tryd.func72 #[.string a0, .string (⟨#[0]⟩ : ByteArray)] rfl ?_; (with_reducible refine (strings_TrimLeft.calls k a0 (⟨#[0]⟩ : ByteArray) t214 _ A2.out).mono ?_); rintro e w3 ⟨rfl, hb⟩; refine ⟨_, rfl, ?_⟩; have n0_ := aM (below_step (bU HB.out) hb); clear HB; have HB := n0_; clear n0_; (try clear hb); (try clear hb2); (try clear hk); (try clear hi)))
 go_ret
 exact ⟨by first | rfl | (simp [errW_none, errW_some] <;> rfl) | (simp [*, errW_none, errW_some] <;> rfl), bU HB.out⟩

/-! ### natural_limbs_trim: function 74 -/
def natural_limbs_trim.l0 : Nat → List Int → Int → Option (List Int)
 | 0, _, _ => none
 | k + 1, x0, x3 => if x3 > 0 then (if 0 ≤ (wrap64 (x3 - 1)) then (if (wrap64 (x3 - 1)) < (x0.length : Int) then (if (rd x0 (wrap64 (x3 - 1))) = 0 then (natural_limbs_trim.l0 k x0 (wrap64 (x3 - 1))) else (if 0 ≤ x3 then (if x3 ≤ (x0.length : Int) then (some (x0.take (x3 : Int).toNat)) else (none)) else (none))) else (none)) else (none)) else (if 0 ≤ x3 then (if x3 ≤ (x0.length : Int) then (some (x0.take (x3 : Int).toNat)) else (none)) else (none))
def natural_limbs_trim.f (k : Nat) (l0 : List Int) : Option (List Int) := natural_limbs_trim.l0 k l0 (l0.length : Int)
theorem natural_limbs_trim.mono_l : ∀ k, (∀ y0 y1, LeO (natural_limbs_trim.l0 k y0 y1) (natural_limbs_trim.l0 (k + 1) y0 y1))
 | 0 => fun _ _ r h => by simp [natural_limbs_trim.l0] at h
 | k + 1 => by
  have ih0 := natural_limbs_trim.mono_l k
  ·intro y0 y1
   unfold natural_limbs_trim.l0
   repeat' first
   | (with_reducible exact ih0 _ _)
   | (with_reducible exact LeO.refl _)
   | (with_reducible exact LeO.none _)
   | (with_reducible refine LeO.ite ?_ ?_)
   | (with_reducible refine LeO.bind ?_ (fun _ => ?_))
   | exact LeO.none _
   | refine LeO.ite ?_ ?_
   | refine LeO.bind ?_ (fun _ => ?_)
theorem natural_limbs_trim.mono : ∀ a0 k, LeO (natural_limbs_trim.f k a0) (natural_limbs_trim.f (k + 1) a0) := by
 intro a0 k
 have ih0 := natural_limbs_trim.mono_l k
 unfold natural_limbs_trim.f
 repeat' first
   | (with_reducible exact ih0 _ _)
   | (with_reducible exact LeO.refl _)
   | (with_reducible exact LeO.none _)
   | (with_reducible refine LeO.ite ?_ ?_)
   | (with_reducible refine LeO.bind ?_ (fun _ => ?_))
   | exact LeO.none _
   | refine LeO.ite ?_ ?_
   | refine LeO.bind ?_ (fun _ => ?_)
set_option maxHeartbeats 8000000 in
set_option maxRecDepth 100000 in
theorem natural_limbs_trim.calls (k : Nat) (P0_ : Nat → Prop) (A0 : Option Addr) (c0 : Nat) (l0 : List Int) (r : List Int) (w : World) (hs0 : Kd.V (Kd.int .u32) 86 w w.heap.size (fun k_ => P0_ k_) (.slice A0 l0.length c0) l0) (h : natural_limbs_trim.f k l0 = some r) :
  Calls Tryd.prog 74 #[.slice A0 l0.length c0] w fun e w' => ∃ v0_ : Value, e = .returned (v0_) ∧ Kd.V (Kd.int .u32) 86 w' w.heap.size (fun k_ => (P0_ k_ ∨ w.heap.size ≤ k_)) v0_ r ∧ Below w.heap.size w w' := by
 have HO0 := aM (show Kd.V (Kd.int .u32) 86 w w.heap.size (fun k_ => (P0_ k_ ∨ w.heap.size ≤ k_)) (.slice A0 l0.length c0) l0 from Kd.V_mono hs0 (fun k_ hk => .inl hk))
 have HB := aM (Below.refl w.heap.size w)
 have H : (natural_limbs_trim.l0 k l0 (l0.length : Int)) = some r := h
 clear h
 have H' := Aside0.mk H
 clear H
 go_enter Tryd.func74, Tryd.ntmps74
 go_wp2
 go_loopg [3] k (fun kq v3 w' => ∃ (x3_1 : Int), v3 = .int .i64 x3_1 ∧ Aside0 (natural_limbs_trim.l0 kq l0 x3_1 = some r) ∧ Aside0 (kq ≤ k) ∧ Aside0 (Kd.V (Kd.int .u32) 86 w' w.heap.size (fun k_ => (P0_ k_ ∨ w.heap.size ≤ k_)) (.slice A0 l0.length c0) l0) ∧ Aside0 (Below w.heap.size w w'))
 case atStart => exact ⟨((l0.length : Int)), (by first | rfl | (simp; done) | (simp [*]; done)), H', ⟨Nat.le_refl _⟩, ⟨Kd.V_up HO0.out⟩, ⟨bU HB.out⟩⟩
 case round =>
  clear H'
  obtain ⟨x3_1, rfl, HA, HK1, HO_0, HB⟩ := hrel
  cases gk with
  | zero => exact absurd HA.out (by simp [natural_limbs_trim.l0])
  | succ k1 =>
   have H := HA.out
   clear HA
   simp only [natural_limbs_trim.l0] at H
   by_cases c2 : x3_1 > 0
   ·rw [if_pos c2] at H
    have c2b0 : decide (0 < x3_1) = true := decide_eq_true c2
    clear c2
    obtain ⟨ji3, hji3⟩ : ∃ j_ : Int, (wrap64 (x3_1 - 1)) = j_ := ⟨_, rfl⟩
    replace H : (if 0 ≤ (ji3) then (if (ji3) < (l0.length : Int) then (if (rd l0 (ji3)) = 0 then (natural_limbs_trim.l0 k1 l0 ji3) else (if 0 ≤ x3_1 then (if x3_1 ≤ (l0.length : Int) then (some (l0.take (x3_1 : Int).toNat)) else (none)) else (none))) else (none)) else (none)) = some r := by first | (rw [hji3] at H; exact H) | (simp only [hji3] at H ⊢; exact H)
    have hji3w : (IntKind.i64.wrap (x3_1 - 1)) = ji3 := (i64_w _).trans hji3
    by_cases c4 : 0 ≤ (ji3)
    ·rw [if_pos c4] at H
     have c4b0 := decide_eq_true c4
     clear c4
     by_cases c5 : (ji3) < (l0.length : Int)
     ·rw [if_pos c5] at H
      have c5b0 := decide_eq_true c5
      clear c5
      by_cases c6 : (rd l0 (ji3)) = 0
      ·rw [if_pos c6] at H
       have c6b0 : ((rd l0 (ji3)) == 0) = true := beq_iff_eq.mpr c6
       have c6b1 : ((rd l0 (ji3)) != 0) = false := bne_eq_false_iff_eq.mpr c6
       clear c6
       have H' := Aside0.mk H
       clear H
       have p215 : 0 ≤ ((ji3) : Int) := oD
       have q215 : (ji3) < (l0.length : Int) := oD
       obtain ⟨ad215, e215, hx215_0⟩ := Kd.at_int (Kd.V_reads' HO_0.out).2.2 (ji3) p215 q215
       cases e215
       replace p215 := eq_true p215
       replace q215 := eq_true q215
       go_wp2
       go_roundg k1
       case measure => have := HK1.out; omega
       case rel => exact ⟨(ji3), (by first | rfl | (simp; done) | (simp only [← hji3] <;> (first | rfl | simp)) | (simp [*]; done)), H', ⟨by have := HK1.out; omega⟩, ⟨Kd.V_up HO_0.out⟩, ⟨bU HB.out⟩⟩
      ·rw [if_neg c6] at H
       have c6b0 : ((rd l0 (ji3)) == 0) = false := beq_eq_false_iff_ne.mpr c6
       have c6b1 : ((rd l0 (ji3)) != 0) = true := bne_iff_ne.mpr c6
       by_cases c7 : 0 ≤ x3_1
       ·rw [if_pos c7] at H
        have c7b0 := eq_true c7
        have c7b1 := decide_eq_true c7
        clear c7
        by_cases c8 : x3_1 ≤ (l0.length : Int)
        ·rw [if_pos c8] at H
         have c8b0 := eq_true c8
         have c8b1 := decide_eq_true c8
         clear c8
         obtain ⟨y216, hy216⟩ : ∃ y_ : List Int, y_ = (l0.take (x3_1 : Int).toNat) := ⟨_, rfl⟩
         replace H : (some y216) = some r := by first | (rw [hy216]; with_reducible exact H) | (have H2_ := (Option.bind_some _ _).symm.trans H; rw [hy216]; with_reducible exact H2_) | (have H2_ := (Option.bind_some _ _).symm.trans H; with_reducible exact H2_) | with_reducible exact H | (rw [hy216]; exact H) | exact H
         have Ny216 := Aside0.mk hy216
         clear hy216
         obtain rfl := Option.some.inj H
         have p215 : 0 ≤ ((ji3) : Int) := oD
         have q215 : (ji3) < (l0.length : Int) := oD
         obtain ⟨ad215, e215, hx215_0⟩ := Kd.at_int (Kd.V_reads' HO_0.out).2.2 (ji3) p215 q215
         cases e215
         replace p215 := eq_true p215
         replace q215 := eq_true q215
         have q9 : (x3_1 : Int) ≤ ((l0.length : Int) : Int) := oD
         obtain ⟨i09, hi09, _, hsz9, _⟩ := info_parts info86
         have hroom9 : l0.length ≤ c0 := (Kd.V_reads' HO_0.out).2.1
         have hC9 : Kd.F (Kd.int .u32) _ _ (some ad215) l0.length l0 := (Kd.V_at (base := w.heap.size) HO_0.out).2.2
         have hcut9 := cut_to (P := Tryd.prog) 84 86 .i64 Tryd.underlying84 hi09 (some ad215) l0.length c0 x3_1 (oD) q9 hroom9
         have hr9 := Kd.F_take (m := (x3_1 : Int).toNat) hC9 (by omega)
         have hy9 : y216.length = (x3_1 : Int).toNat := (by rw [Ny216.out, List.length_take]; omega)
         rw [← Ny216.out] at hr9
         rw [← hy9] at hcut9
         have HO220 := aM (show Kd.V (Kd.int .u32) 86 _ w.heap.size _ (.slice (some ad215) y216.length c0) y216 from Kd.V_mk (by omega) hr9)
         have HC220 := aM (show y216.length ≤ c0 from by omega)
         clear hr9 hC9 hroom9 hi09 hsz9
         have KY9 := Aside0.mk hy9
         clear hy9
         replace q9 := eq_true q9
         go_wp2
         go_ret
         exact ⟨_, by first | rfl | (simp [errW_none, errW_some] <;> rfl) | (simp only [← hji3]; first | rfl | (simp [errW_none, errW_some] <;> rfl)) | (simp [*, errW_none, errW_some] <;> rfl), Kd.V_up HO220.out, bU HB.out⟩
        ·rw [if_neg c8] at H
         exact absurd H (by simp)
       ·rw [if_neg c7] at H
        exact absurd H (by simp)
     ·rw [if_neg c5] at H
      exact absurd H (by simp)
    ·rw [if_neg c4] at H
     exact absurd H (by simp)
   ·rw [if_neg c2] at H
    have c2b0 : decide (0 < x3_1) = false := decide_eq_false c2
    clear c2
    by_cases c10 : 0 ≤ x3_1
    ·rw [if_pos c10] at H
     have c10b0 := eq_true c10
     have c10b1 := decide_eq_true c10
     clear c10
     by_cases c11 : x3_1 ≤ (l0.length : Int)
     ·rw [if_pos c11] at H
      have c11b0 := eq_true c11
      have c11b1 := decide_eq_true c11
      clear c11
      obtain ⟨y221, hy221⟩ : ∃ y_ : List Int, y_ = (l0.take (x3_1 : Int).toNat) := ⟨_, rfl⟩
      replace H : (some y221) = some r := by first | (rw [hy221]; with_reducible exact H) | (have H2_ := (Option.bind_some _ _).symm.trans H; rw [hy221]; with_reducible exact H2_) | (have H2_ := (Option.bind_some _ _).symm.trans H; with_reducible exact H2_) | with_reducible exact H | (rw [hy221]; exact H) | exact H
      have Ny221 := Aside0.mk hy221
      clear hy221
      obtain rfl := Option.some.inj H
      have q12 : (x3_1 : Int) ≤ ((l0.length : Int) : Int) := oD
      obtain ⟨i012, hi012, _, hsz12, _⟩ := info_parts info86
      have hroom12 : l0.length ≤ c0 := (Kd.V_reads' HO_0.out).2.1
      have hC12 : Kd.F (Kd.int .u32) _ _ A0 l0.length l0 := (Kd.V_at (base := w.heap.size) HO_0.out).2.2
      have hcut12 := cut_to (P := Tryd.prog) 84 86 .i64 Tryd.underlying84 hi012 A0 l0.length c0 x3_1 (oD) q12 hroom12
      have hr12 := Kd.F_take (m := (x3_1 : Int).toNat) hC12 (by omega)
      have hy12 : y221.length = (x3_1 : Int).toNat := (by rw [Ny221.out, List.length_take]; omega)
      rw [← Ny221.out] at hr12
      rw [← hy12] at hcut12
      have HO225 := aM (show Kd.V (Kd.int .u32) 86 _ w.heap.size _ (.slice A0 y221.length c0) y221 from Kd.V_mk (by omega) hr12)
      have HC225 := aM (show y221.length ≤ c0 from by omega)
      clear hr12 hC12 hroom12 hi012 hsz12
      have KY12 := Aside0.mk hy12
      clear hy12
      replace q12 := eq_true q12
      go_wp2
      go_ret
      exact ⟨_, by first | rfl | (simp [errW_none, errW_some] <;> rfl) | (simp [*, errW_none, errW_some] <;> rfl), Kd.V_up HO225.out, bU HB.out⟩
     ·rw [if_neg c11] at H
      exact absurd H (by simp)
    ·rw [if_neg c10] at H
     exact absurd H (by simp)

/-! ### natural_parse: function 54 -/
def natural_parse.l0 : Nat → ByteArray → List Int → Int → Int → Option (List Int)
 | 0, _, _, _, _ => none
 | k + 1, x0, x3, x12, x13 => if x13 < x12 then (if 0 ≤ (wrap64 (Int.tdiv x13 4)) then (if (wrap64 (Int.tdiv x13 4)) < (x3.length : Int) then (if 0 ≤ (wrap64 ((wrap64 ((x0.size : Int) - 1)) - x13)) then (if (wrap64 ((wrap64 ((x0.size : Int) - 1)) - x13)) < (x0.size : Int) then (if 0 ≤ (wrap64 (8 * (Int.tmod x13 4))) then (natural_parse.l0 k x0 (x3.set ((wrap64 (Int.tdiv x13 4)) : Int).toNat (Go.bits .or .u32 (rd x3 (wrap64 (Int.tdiv x13 4))) ((((bt x0 (wrap64 ((wrap64 ((x0.size : Int) - 1)) - x13))) % 4294967296) * 2 ^ min (wrap64 (8 * (Int.tmod x13 4))).toNat 32) % 4294967296))) x12 (wrap64 (x13 + 1))) else (none)) else (none)) else (none)) else (none)) else (none)) else ((natural_limbs_trim.f k x3).bind fun t231 => (some t231))
def natural_parse.f (k : Nat) (a0 : ByteArray) : Option (List Int) := if 0 ≤ (wrap64 (Int.tdiv (wrap64 ((wrap64 ((a0.size : Int) + 4)) - 1)) 4)) then (if (wrap64 (Int.tdiv (wrap64 ((wrap64 ((a0.size : Int) + 4)) - 1)) 4) : Int).toNat ≤ 70368744177664 then (natural_parse.l0 k a0 (List.replicate (wrap64 (Int.tdiv (wrap64 ((wrap64 ((a0.size : Int) + 4)) - 1)) 4) : Int).toNat 0) (a0.size : Int) 0) else (none)) else (none)
theorem natural_parse.mono_l : ∀ k, (∀ y0 y1 y2 y3, LeO (natural_parse.l0 k y0 y1 y2 y3) (natural_parse.l0 (k + 1) y0 y1 y2 y3))
 | 0 => fun _ _ _ _ r h => by simp [natural_parse.l0] at h
 | k + 1 => by
  have ih0 := natural_parse.mono_l k
  ·intro y0 y1 y2 y3
   unfold natural_parse.l0
   repeat' first
   | (with_reducible exact ih0 _ _ _ _)
   | (with_reducible exact natural_limbs_trim.mono _ _)
   | (with_reducible exact LeO.refl _)
   | (with_reducible exact LeO.none _)
   | (with_reducible refine LeO.ite ?_ ?_)
   | (with_reducible refine LeO.bind ?_ (fun _ => ?_))
   | exact LeO.none _
   | refine LeO.ite ?_ ?_
   | refine LeO.bind ?_ (fun _ => ?_)
theorem natural_parse.mono : ∀ a0 k, LeO (natural_parse.f k a0) (natural_parse.f (k + 1) a0) := by
 intro a0 k
 have ih0 := natural_parse.mono_l k
 unfold natural_parse.f
 repeat' first
   | (with_reducible exact ih0 _ _ _ _)
   | (with_reducible exact natural_limbs_trim.mono _ _)
   | (with_reducible exact LeO.refl _)
   | (with_reducible exact LeO.none _)
   | (with_reducible refine LeO.ite ?_ ?_)
   | (with_reducible refine LeO.bind ?_ (fun _ => ?_))
   | exact LeO.none _
   | refine LeO.ite ?_ ?_
   | refine LeO.bind ?_ (fun _ => ?_)
def natural_parse.T5 : Bool × List (List Nat × List Nat) := (true, [([], []), ([], []), ([1], [1]), ([0, 2], [0, 2]), ([3], [3]), ([], []), ([], []), ([6], [6]), ([7], [7]), ([], []), ([8, 9], [8, 9]), ([5, 10], [5, 10]), ([11], [11]), ([], []), ([13], [13]), ([14], [14]), ([12, 15], [12, 15]), ([4, 16], [4, 16]), ([0, 2, 0, 1, 2, 3, 4, 5, 6, 7, 8, 9, 10, 11, 12, 13, 14, 15, 16, 17], [0, 2]), ([18, 17, 0, 1, 2, 3, 4, 5, 6, 7, 8, 9, 10, 11, 12, 13, 14, 15, 16, 17], [17, 18])])
def natural_parse.B5 : List Nat := [0, 0, 2, 7, 15, 0, 0, 64, 192, 0, 960, 2016, 4064, 0, 8192, 24576, 65504, 131071, 262143, 524287]
theorem natural_parse.tab5 : rtab .any (opsOf Tryd.f54 5) = natural_parse.T5 := by kernel_rfl
theorem natural_parse.bits5 : waitsOk natural_parse.T5.2 natural_parse.B5 = true := by kernel_rfl
set_option maxHeartbeats 8000000 in
set_option maxRecDepth 100000 in
theorem natural_parse.calls (k : Nat) (a0 : ByteArray) (r : List Int) (w : World) (h : natural_parse.f k a0 = some r) :
  Calls Tryd.prog 54 #[.string a0] w fun e w' => ∃ v0_ : Value, e = .returned (v0_) ∧ Kd.V (Kd.int .u32) 86 w' w.heap.size (fun k_ => (w.heap.size ≤ k_)) v0_ r ∧ Below w.heap.size w w' := by
 have HB := aM (Below.refl w.heap.size w)
 have H : (if 0 ≤ (wrap64 (Int.tdiv (wrap64 ((wrap64 ((a0.size : Int) + 4)) - 1)) 4)) then (if (wrap64 (Int.tdiv (wrap64 ((wrap64 ((a0.size : Int) + 4)) - 1)) 4) : Int).toNat ≤ 70368744177664 then (natural_parse.l0 k a0 (List.replicate (wrap64 (Int.tdiv (wrap64 ((wrap64 ((a0.size : Int) + 4)) - 1)) 4) : Int).toNat 0) (a0.size : Int) 0) else (none)) else (none)) = some r := h
 clear h
 obtain ⟨ji2, hji2⟩ : ∃ j_ : Int, (wrap64 (Int.tdiv (wrap64 ((wrap64 ((a0.size : Int) + 4)) - 1)) 4)) = j_ := ⟨_, rfl⟩
 replace H : (if 0 ≤ (ji2) then (if (ji2 : Int).toNat ≤ 70368744177664 then (natural_parse.l0 k a0 (List.replicate (ji2 : Int).toNat 0) (a0.size : Int) 0) else (none)) else (none)) = some r := by first | (rw [hji2] at H; exact H) | (simp only [hji2] at H ⊢; exact H)
 have hji2w : (IntKind.i64.wrap (Int.tdiv (wrap64 ((wrap64 ((a0.size : Int) + 4)) - 1)) 4)) = ji2 := (i64_w _).trans hji2
 by_cases c3 : 0 ≤ (ji2)
 ·rw [if_pos c3] at H
  have c3b0 := eq_true c3
  have c3b1 := decide_eq_true c3
  clear c3
  by_cases c4 : (ji2 : Int).toNat ≤ 70368744177664
  ·rw [if_pos c4] at H
   have c4b0 := eq_true c4
   have c4b1 := decide_eq_true c4
   clear c4
   obtain ⟨y226, hy226⟩ : ∃ y_ : List Int, y_ = (List.replicate (ji2 : Int).toNat 0) := ⟨_, rfl⟩
   replace H : (natural_parse.l0 k a0 y226 (a0.size : Int) 0) = some r := by first | (rw [hy226]; with_reducible exact H) | (have H2_ := (Option.bind_some _ _).symm.trans H; rw [hy226]; with_reducible exact H2_) | (have H2_ := (Option.bind_some _ _).symm.trans H; with_reducible exact H2_) | with_reducible exact H | (rw [hy226]; exact H) | exact H
   have Ny226 := Aside0.mk hy226
   clear hy226
   have H' := Aside0.mk H
   clear H
   go_enter Tryd.func54, Tryd.ntmps54
   go_wp2_with (first | ((with_reducible refine gate_dst (N := 10) rfl ?_); refine Kd.R_make (Kd.int .u32) _ 86 rfl (N := 10) rfl 84 _ _ rfl ji2 rfl rfl Tryd.underlying84 (.int .u32 0) 4 info86 rfl (by decide) (by omega) 0 (ok := fun _ => True) (okp := fun _ => True) rfl (fun _ hk => hk) trivial (oD) (Nat.le_trans (Nat.mul_le_mul_right _ (oD : ji2.toNat ≤ 70368744177664)) (by omega)) (Below.refl _ _) (Nat.le_refl _) ?_; intro v227 w5 ho6 hb hg_ hnew_; clear hg_ hnew_; (first | rw [← Ny226.out] at ho6 | (simp only [Int.reduceToNat] at ho6; rw [← Ny226.out] at ho6)); have n0_ := aM (Kd.R_lower (Kd.R_newM (M := fun k_ => (w.heap.size ≤ k_)) ho6 (below_size (bU HB.out)) (fun k_ h_ => h_)) (below_size (bU HB.out))); have n1_ := aM (below_step (bU HB.out) hb); clear HB; have HO228 := n0_; have HB := n1_; clear n0_ n1_; clear hb ho6))
   go_loopg [13] k (fun kq v13 w' => ∃ (x3_1 : List Int) (x13_1 : Int), v13 = .int .i64 x13_1 ∧ Aside0 (natural_parse.l0 kq a0 x3_1 (a0.size : Int) x13_1 = some r) ∧ Aside0 (kq ≤ k) ∧ Aside0 (Kd.R (Kd.int .u32) 86 w' w.heap.size (fun k_ => (w.heap.size ≤ k_)) v227 x3_1) ∧ Aside0 (Below w.heap.size w w'))
   case atStart => exact ⟨(y226), (0), (by first | rfl | (simp; done) | (simp [*]; done)), H', ⟨Nat.le_refl _⟩, ⟨Kd.R_up (Kd.R_mono HO228.out (fun _ hk => hk.1))⟩, ⟨bU HB.out⟩⟩
   case round =>
    clear H'
    (try clear p2); (try clear c3); (try clear c3b0); (try clear c3b1); (try clear c4); (try clear c4b0); (try clear c4b1); (try clear c5); (try clear p6)
    obtain ⟨x3_1, x13_1, rfl, HA, HK1, HO_3, HB⟩ := hrel
    cases gk with
    | zero => exact absurd HA.out (by simp [natural_parse.l0])
    | succ k1 =>
     have H := HA.out
     clear HA
     simp only [natural_parse.l0] at H
     by_cases c7 : x13_1 < (a0.size : Int)
     ·rw [if_pos c7] at H
      have c7b0 := decide_eq_true c7
      clear c7
      obtain ⟨ji8, hji8⟩ : ∃ j_ : Int, (wrap64 (Int.tdiv x13_1 4)) = j_ := ⟨_, rfl⟩
      replace H : (if 0 ≤ (ji8) then (if (ji8) < (x3_1.length : Int) then (if 0 ≤ (wrap64 ((wrap64 ((a0.size : Int) - 1)) - x13_1)) then (if (wrap64 ((wrap64 ((a0.size : Int) - 1)) - x13_1)) < (a0.size : Int) then (if 0 ≤ (wrap64 (8 * (Int.tmod x13_1 4))) then (natural_parse.l0 k1 a0 (x3_1.set ((ji8) : Int).toNat (Go.bits .or .u32 (rd x3_1 (ji8)) ((((bt a0 (wrap64 ((wrap64 ((a0.size : Int) - 1)) - x13_1))) % 4294967296) * 2 ^ min (wrap64 (8 * (Int.tmod x13_1 4))).toNat 32) % 4294967296))) (a0.size : Int) (wrap64 (x13_1 + 1))) else (none)) else (none)) else (none)) else (none)) else (none)) = some r := by first | (rw [hji8] at H; exact H) | (simp only [hji8] at H ⊢; exact H)
      have hji8w : (IntKind.i64.wrap (Int.tdiv x13_1 4)) = ji8 := (i64_w _).trans hji8
      by_cases c9 : 0 ≤ (ji8)
      ·rw [if_pos c9] at H
       have c9b0 := decide_eq_true c9
       clear c9
       by_cases c10 : (ji8) < (x3_1.length : Int)
       ·rw [if_pos c10] at H
        have c10b0 := decide_eq_true c10
        clear c10
        obtain ⟨ji11, hji11⟩ : ∃ j_ : Int, (wrap64 ((wrap64 ((a0.size : Int) - 1)) - x13_1)) = j_ := ⟨_, rfl⟩
        replace H : (if 0 ≤ (ji11) then (if (ji11) < (a0.size : Int) then (if 0 ≤ (wrap64 (8 * (Int.tmod x13_1 4))) then (natural_parse.l0 k1 a0 (x3_1.set ((ji8) : Int).toNat (Go.bits .or .u32 (rd x3_1 (ji8)) ((((bt a0 (ji11)) % 4294967296) * 2 ^ min (wrap64 (8 * (Int.tmod x13_1 4))).toNat 32) % 4294967296))) (a0.size : Int) (wrap64 (x13_1 + 1))) else (none)) else (none)) else (none)) = some r := by first | (rw [hji11] at H; exact H) | (simp only [hji11] at H ⊢; exact H)
        have hji11w : (IntKind.i64.wrap ((wrap64 ((a0.size : Int) - 1)) - x13_1)) = ji11 := (i64_w _).trans hji11
        by_cases c12 : 0 ≤ (ji11)
        ·rw [if_pos c12] at H
         have c12b0 := decide_eq_true c12
         clear c12
         by_cases c13 : (ji11) < (a0.size : Int)
         ·rw [if_pos c13] at H
          have c13b0 := decide_eq_true c13
          clear c13
          obtain ⟨ji15, hji15⟩ : ∃ j_ : Int, (wrap64 (8 * (Int.tmod x13_1 4))) = j_ := ⟨_, rfl⟩
          replace H : (if 0 ≤ (ji15) then (natural_parse.l0 k1 a0 (x3_1.set ((ji8) : Int).toNat (Go.bits .or .u32 (rd x3_1 (ji8)) ((((bt a0 (ji11)) % 4294967296) * 2 ^ min (ji15).toNat 32) % 4294967296))) (a0.size : Int) (wrap64 (x13_1 + 1))) else (none)) = some r := by first | (rw [hji15] at H; exact H) | (simp only [hji15] at H ⊢; exact H)
          have hji15w : (IntKind.i64.wrap (8 * (Int.tmod x13_1 4))) = ji15 := (i64_w _).trans hji15
          by_cases c16 : 0 ≤ (ji15)
          ·rw [if_pos c16] at H
           have c16b0 := eq_true c16
           have c16b1 := decide_eq_true c16
           clear c16
           obtain ⟨y230, hy230⟩ : ∃ y_ : List Int, y_ = (x3_1.set ((ji8) : Int).toNat (Go.bits .or .u32 (rd x3_1 (ji8)) ((((bt a0 (ji11)) % 4294967296) * 2 ^ min (ji15).toNat 32) % 4294967296))) := ⟨_, rfl⟩
           replace H : (natural_parse.l0 k1 a0 y230 (a0.size : Int) (wrap64 (x13_1 + 1))) = some r := by first | (rw [hy230]; with_reducible exact H) | (have H2_ := (Option.bind_some _ _).symm.trans H; rw [hy230]; with_reducible exact H2_) | (have H2_ := (Option.bind_some _ _).symm.trans H; with_reducible exact H2_) | with_reducible exact H | (rw [hy230]; exact H) | exact H
           have Ny230 := Aside0.mk hy230
           clear hy230
           have H' := Aside0.mk H
           clear H
           try go_wp2
           have n0_ := aM (Kd.R_drew HO_3.out)
           have n1_ := aM (below_drew1 HB.out)
           clear HO_3
           clear HB
           have HO_3 := n0_
           have HB := n1_
           clear n0_ n1_
           obtain ⟨Ao19, co19, eo19⟩ := Kd.R_slice HO_3.out
           (first | subst eo19 | (injection eo19 with f1_ f2_ f3_; have f4_ := f1_.symm; have f5_ := f3_.symm; clear f1_ f2_ f3_; subst f4_; subst f5_))
           have p229 : 0 ≤ ((ji8) : Int) := oD
           have q229 : (ji8) < (x3_1.length : Int) := oD
           obtain ⟨ad229, e229, hx229_0⟩ := Kd.at_int (Kd.R_reads' HO_3.out).2.2 (ji8) p229 q229
           cases e229
           replace p229 := eq_true p229
           replace q229 := eq_true q229
           have p14 : 0 ≤ ((ji11) : Int) := oD
           have q14 : (ji11) < (a0.size : Int) := oD
           have hx14 := bt_at a0 (ji11)
           replace p14 := eq_true p14
           replace q14 := eq_true q14
           have p17 : 0 ≤ ((ji8) : Int) := oD
           have q17 : ((ji8) : Int) < ((x3_1.length : Int) : Int) := oD
           obtain ⟨go17, co17, eo17, gb17, gl17, cl17, HG17⟩ := Kd.R_form HO_3.out (by omega)
           (first | cases eo17 | (injection eo17 with ea_ en_ ec_; (first | subst ea_ | (injection ea_ with ea_; subst ea_)); subst ec_; clear en_))
           have GB17 := Aside0.mk gb17
           have GG17 := Aside0.mk HG17
           clear gb17 gl17 HG17
           (first | simp only [add_plain] at hx229_0 | skip)
           obtain ⟨hx17_0, hf17_0⟩ := Kd.R_celln 0 HO_3.out ((ji8) : Int) p17 q17
           replace p17 := eq_true p17
           replace q17 := eq_true q17
           have HP20 := Kd.R_putn HO_3.out ((ji8) : Int) (Go.bits .or .u32 (rd x3_1 (ji8)) ((((bt a0 (ji11)) % 4294967296) * 2 ^ min (ji15).toNat 32) % 4294967296))
           rw [← Ny230.out] at HP20
           have HQ20 := Aside0.mk HP20
           clear HP20
           refine start_ (n := 20) (S := fun w' => w'.cell? ⟨go17, ((ji8)).toNat, none⟩ = some (.int .u32 (rd x3_1 (ji8)))) (ds := [19]) #[false, false, false, false, false, false, false, false, false, false, false, false, false, false, false, false, false, false, false, false] (by kernel_rfl) rfl rfl (hx229_0) (fun hHeld => ?_); refine with_tabW natural_parse.tab5 natural_parse.bits5 (fun HT_ HW_ => ?_)
           generalize wr.drew = w18 at HO_3 HB GG17 HQ20 hf17_0 hx17_0 hx229_0 hHeld ⊢
           refine pureq (i := 0) (N := some 16) HT_.out rfl rfl ?_
           refine pureq (i := 1) (N := some 17) HT_.out rfl rfl ?_
           refine pureq (i := 2) (N := some 18) HT_.out rfl rfl ?_
           refine pureq (i := 3) (N := some 19) HT_.out rfl rfl ?_
           refine pureq (i := 5) (N := some 21) HT_.out rfl rfl ?_
           refine pureq (i := 6) (N := some 22) HT_.out rfl rfl ?_
           refine pureq (i := 7) (N := some 23) HT_.out rfl rfl ?_
           refine pureq (i := 8) (N := some 24) HT_.out rfl rfl ?_
           refine pureq (i := 9) (N := some 25) HT_.out rfl rfl ?_
           refine pureq (i := 10) (N := some 26) HT_.out rfl rfl ?_
           refine pureq (i := 13) (N := some 29) HT_.out rfl rfl ?_
           refine pureq (i := 14) (N := some 30) HT_.out rfl rfl ?_
           refine pureq (i := 15) (N := some 31) HT_.out rfl rfl ?_
           refine take_ (i := 4) (N := some 20) (v := ?_) (a' := ?_) #[true, true, true, true, true, true, true, true, true, true, true, false, false, true, true, true, false, false, false, false] rfl rfl (take_ofW HT_.out HW_.out (by kernel_rfl)) (fun _ _ _ h => h) (Or.inl ⟨by rfl, ?_⟩) hHeld ?_ ?_
           rotate_left
           ·intro w' s0
            go_simp
            with_reducible rfl
           rotate_left
           ·simp only [Act.put, sTA, sC0, sCS, i64_w, i32_w]
            rfl
           refine take_ (i := 11) (N := some 27) (v := ?_) (a' := ?_) #[true, true, true, true, true, true, true, true, true, true, true, true, false, true, true, true, false, false, false, false] rfl rfl (take_ofW HT_.out HW_.out (by kernel_rfl)) (fun _ _ _ h => h) (Or.inl ⟨by rfl, ?_⟩) hHeld ?_ ?_
           rotate_left
           ·intro w' s0
            go_simp
            with_reducible rfl
           rotate_left
           ·simp only [Act.put, sTA, sC0, sCS, i64_w, i32_w]
            rfl
           refine pureq (i := 12) (N := some 28) HT_.out rfl rfl ?_
           refine pureq (i := 16) (N := some 32) HT_.out rfl rfl ?_
           refine pureq (i := 17) (N := some 33) HT_.out rfl rfl ?_
           refine pureq (i := 18) (N := some 34) HT_.out rfl rfl ?_
           refine last_ (i := 19) (N := none) #[true, true, true, true, true, true, true, true, true, true, true, true, true, true, true, true, true, true, true, true] rfl rfl (one_of HT_.out (by kernel_rfl)) (by decide) (fun K hK => ?_)
           refine skip_ (w1 := ?_) (by rfl) rfl ?_ ?_
           rotate_left
           ·go_simp
            rfl
           refine hK.out _ _ ?_
           clear hK K
           refine done_ (done_of HT_.out (by kernel_rfl)) ?_
           try go_wp2
           go_roundg k1
           case measure => have := HK1.out; omega
           case rel => exact ⟨(y230), (wrap64 (x13_1 + 1)), (by first | rfl | (simp; done) | (simp [*]; done)), H', ⟨by have := HK1.out; omega⟩, ⟨Kd.R_up HQ20.out⟩, ⟨bU HB.out⟩⟩
          ·rw [if_neg c16] at H
           exact absurd H (by simp)
         ·rw [if_neg c13] at H
          exact absurd H (by simp)
        ·rw [if_neg c12] at H
         exact absurd H (by simp)
       ·rw [if_neg c10] at H
        exact absurd H (by simp)
      ·rw [if_neg c9] at H
       exact absurd H (by simp)
     ·rw [if_neg c7] at H
      have c7b0 := decide_eq_false c7
      clear c7
      replace H := bE H
      obtain ⟨t231, A210, H⟩ := H
      replace H : (some t231) = some r := H
      have A21 := Aside0.mk A210
      clear A210
      obtain rfl := Option.some.inj H
      obtain ⟨Ao22, co22, eo22⟩ := Kd.R_slice HO_3.out
      subst eo22
      go_wp2_with (first | ((with_reducible refine gate_callee (f := 74) rfl ?_); refine goesLq (some 37) rfl rfl Tryd.func74 #[.slice Ao22 x3_1.length co22] rfl ?_; (with_reducible refine (natural_limbs_trim.calls k1 (fun k_ => some k_ = (.slice Ao22 x3_1.length co22 : Value).ownBlock) _ _ x3_1 t231 _ ?side1 A21.out).mono ?_); (case side1 => exact Kd.R_V (Kd.R_tight rfl (HO_3.out))); rintro e w23 ⟨v232, rfl, ho0, hb⟩; refine ⟨_, rfl, ?_⟩; have n0_ := aM (Kd.R_below (Kd.R_up HO_3.out) hb); have n1_ := aM (Kd.V_lower (Kd.V_mono (ok' := fun k_ => (w.heap.size ≤ k_)) ho0 (fun k_ hk_ => Or.elim hk_ (fun hs_ => ((HO_3.out).1 k_ hs_.symm)) (fun hn_ => (Nat.le_trans (below_size (bU HB.out)) hn_)))) (below_size (bU HB.out))); have n2_ := aM (below_step (bU HB.out) hb); clear HO_3; clear HB; have HO_3 := n0_; have HO233 := n1_; have HB := n2_; clear n0_ n1_ n2_; (try clear hb); (try clear hb2); (try clear hk); (try clear hi); (try clear ho0)))
      go_ret
      exact ⟨_, by first | rfl | (simp [errW_none, errW_some] <;> rfl) | (simp only [← hji2]; first | rfl | (simp [errW_none, errW_some] <;> rfl)) | (simp [*, errW_none, errW_some] <;> rfl), Kd.V_up HO233.out, bU HB.out⟩
  ·rw [if_neg c4] at H
   exact absurd H (by simp)
 ·rw [if_neg c3] at H
  exact absurd H (by simp)

end Go.Proofs.YtjeamaahhpbbkaaDoor.PAll
