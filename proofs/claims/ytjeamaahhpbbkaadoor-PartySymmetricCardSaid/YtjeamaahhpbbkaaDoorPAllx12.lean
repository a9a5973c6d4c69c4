-- PRINTED by a session's own changed print
import Derived.Test.YtjeamaahhpbbkaaDoorPAllx0
import Derived.Test.YtjeamaahhpbbkaaDoorPAllx8
import Derived.Test.YtjeamaahhpbbkaaDoorPAllx11
namespace Go.Proofs.YtjeamaahhpbbkaaDoor.PAll
open Go.RowKit Go.Proofs.YtjeamaahhpbbkaaDoorW.PrintWords Go.Proofs.YtjeamaahhpbbkaaDoorW.PrintLast
set_option linter.unusedVariables false
set_option linter.unusedSimpArgs false

/-! ### party_Check: function 11 -/
mutual
def party_Check.j0 : Nat → Bool → List Int → List (S36) → List (S38) → Option (Int)
 | 0, _, _, _, _ => none
 | k + 1, x29, x448000, x448001, x448002 => if x29 = true then (some 2) else (party_Check.l0 k x448000 (x448000.length : Int) 0 x448000 x448001 x448002)
def party_Check.l0 : Nat → List Int → Int → Int → List Int → List (S36) → List (S38) → Option (Int)
 | 0, _, _, _, _, _, _ => none
 | k + 1, x31, x32, x33, x448000, x448001, x448002 => if x33 < x32 then (if 0 ≤ x33 then (if x33 < (x31.length : Int) then (if (rd x31 x33) = 1 then (party_Check.l0 k x31 x32 (wrap64 (x33 + 1)) x448000 x448001 x448002) else (if (rd x31 x33) = 2 then (party_Check.l0 k x31 x32 (wrap64 (x33 + 1)) x448000 x448001 x448002) else (some 1))) else (none)) else (none)) else (party_Check.l1 k x448001 (x448001.length : Int) 0 x448000 x448001 x448002)
def party_Check.l1 : Nat → List (S36) → Int → Int → List Int → List (S36) → List (S38) → Option (Int)
 | 0, _, _, _, _, _, _ => none
 | k + 1, x45, x46, x47, x448000, x448001, x448002 => if x47 < x46 then (if 0 ≤ x47 then (if x47 < (x45.length : Int) then ((party_is.f x448000 x448001 x448002 ((rd_T36 x45 x47).f0)).bind fun t451 => (if t451 = true then ((party_is.f x448000 x448001 x448002 ((rd_T36 x45 x47).f1)).bind fun t452 => (if t452 = true then (if 0 ≤ ((rd_T36 x45 x47).f1) then (if ((rd_T36 x45 x47).f1) < (x448000.length : Int) then (if (rd x448000 ((rd_T36 x45 x47).f1)) = 2 then (party_Check.j3 k x45 x46 x47 (((rd_T36 x45 x47).f0) == ((rd_T36 x45 x47).f1)) x448000 x448001 x448002 ((rd_T36 x45 x47).f0) ((rd_T36 x45 x47).f1) ((rd_T36 x45 x47).f2.f0) ((rd_T36 x45 x47).f2.f1) ((rd_T36 x45 x47).f2.f2)) else (party_Check.j3 k x45 x46 x47 true x448000 x448001 x448002 ((rd_T36 x45 x47).f0) ((rd_T36 x45 x47).f1) ((rd_T36 x45 x47).f2.f0) ((rd_T36 x45 x47).f2.f1) ((rd_T36 x45 x47).f2.f2))) else (none)) else (none)) else (party_Check.j3 k x45 x46 x47 true x448000 x448001 x448002 ((rd_T36 x45 x47).f0) ((rd_T36 x45 x47).f1) ((rd_T36 x45 x47).f2.f0) ((rd_T36 x45 x47).f2.f1) ((rd_T36 x45 x47).f2.f2)))) else (party_Check.j3 k x45 x46 x47 true x448000 x448001 x448002 ((rd_T36 x45 x47).f0) ((rd_T36 x45 x47).f1) ((rd_T36 x45 x47).f2.f0) ((rd_T36 x45 x47).f2.f1) ((rd_T36 x45 x47).f2.f2)))) else (none)) else (none)) else (if 0 ≤ (x448000.length : Int) then (if ((x448000.length : Int) : Int).toNat ≤ 7036874417766 then (party_Check.l2 k (List.replicate ((x448000.length : Int) : Int).toNat z33) x448001 (x448001.length : Int) 0 x448000 x448001 x448002) else (none)) else (none))
def party_Check.j3 : Nat → List (S36) → Int → Int → Bool → List Int → List (S36) → List (S38) → Int → Int → Bool → ByteArray → ByteArray → Option (Int)
 | 0, _, _, _, _, _, _, _, _, _, _, _, _ => none
 | k + 1, x45, x46, x47, x51, x448000, x448001, x448002, x451000, x451001, x451002, x451003, x451004 => if x51 = true then (some 14) else ((rational_Sign.f k x451002 x451003 x451004).bind fun t454 => (if t454 ≤ 0 then (some 1) else (party_Check.l1 k x45 x46 (wrap64 (x47 + 1)) x448000 x448001 x448002)))
def party_Check.l2 : Nat → List (S33) → List (S36) → Int → Int → List Int → List (S36) → List (S38) → Option (Int)
 | 0, _, _, _, _, _, _, _ => none
 | k + 1, x7, x91, x92, x93, x448000, x448001, x448002 => if x93 < x92 then (if 0 ≤ x93 then (if x93 < (x91.length : Int) then (if 0 ≤ ((rd_T36 x91 x93).f1) then (if ((rd_T36 x91 x93).f1) < (x7.length : Int) then ((rational_Add.f k ((rd_T33 x7 ((rd_T36 x91 x93).f1)).f0) ((rd_T33 x7 ((rd_T36 x91 x93).f1)).f1) ((rd_T33 x7 ((rd_T36 x91 x93).f1)).f2) ((rd_T36 x91 x93).f2.f0) ((rd_T36 x91 x93).f2.f1) ((rd_T36 x91 x93).f2.f2)).bind fun bt461 => (party_Check.l2 k (x7.set (((rd_T36 x91 x93).f1) : Int).toNat (⟨bt461.1, bt461.2.1, bt461.2.2⟩ : S33)) x91 x92 (wrap64 (x93 + 1)) x448000 x448001 x448002)) else (none)) else (none)) else (none)) else (none)) else (party_Check.l3 k x7 (x7.length : Int) 0 x448000 x448001 x448002)
def party_Check.l3 : Nat → List (S33) → Int → Int → List Int → List (S36) → List (S38) → Option (Int)
 | 0, _, _, _, _, _, _ => none
 | k + 1, x110, x111, x112, x448000, x448001, x448002 => if x112 < x111 then (if 0 ≤ x112 then (if x112 < (x110.length : Int) then ((rational_Int.f k 1).bind fun bt467 => ((rational_Compare.f k ((rd_T33 x110 x112).f0) ((rd_T33 x110 x112).f1) ((rd_T33 x110 x112).f2) bt467.1 bt467.2.1 bt467.2.2).bind fun t470 => (if t470 > 0 then (some 6) else (party_Check.l3 k x110 x111 (wrap64 (x112 + 1)) x448000 x448001 x448002)))) else (none)) else (none)) else (party_Check.l4 k x448002 (x448002.length : Int) 0 x448000 x448001 x448002)
def party_Check.l4 : Nat → List (S38) → Int → Int → List Int → List (S36) → List (S38) → Option (Int)
 | 0, _, _, _, _, _, _ => none
 | k + 1, x122, x123, x124, x448000, x448001, x448002 => if x124 < x123 then (if 0 ≤ x124 then (if x124 < (x122.length : Int) then ((party_is.f x448000 x448001 x448002 ((rd_T38 x122 x124).f0)).bind fun t473 => (if t473 = true then ((party_is.f x448000 x448001 x448002 ((rd_T38 x122 x124).f1)).bind fun t474 => (if t474 = true then (if ((rd_T38 x122 x124).f0) = ((rd_T38 x122 x124).f1) then (some 14) else (party_Check.l4 k x122 x123 (wrap64 (x124 + 1)) x448000 x448001 x448002)) else (some 14))) else (some 14))) else (none)) else (none)) else (some 0)
end
def party_Check.f (k : Nat) (l0_0 : List Int) (l0_1 : List (S36)) (l0_2 : List (S38)) : Option (Int) := if (l0_0.length : Int) > 32 then (party_Check.j0 k true l0_0 l0_1 l0_2) else (if (l0_1.length : Int) > 64 then (party_Check.j0 k true l0_0 l0_1 l0_2) else (party_Check.j0 k (decide ((l0_2.length : Int) > 64)) l0_0 l0_1 l0_2))
theorem party_Check.mono_l : ∀ k, (∀ y0 y1 y2 y3, LeO (party_Check.j0 k y0 y1 y2 y3) (party_Check.j0 (k + 1) y0 y1 y2 y3)) ∧ (∀ y0 y1 y2 y3 y4 y5, LeO (party_Check.l0 k y0 y1 y2 y3 y4 y5) (party_Check.l0 (k + 1) y0 y1 y2 y3 y4 y5)) ∧ (∀ y0 y1 y2 y3 y4 y5, LeO (party_Check.l1 k y0 y1 y2 y3 y4 y5) (party_Check.l1 (k + 1) y0 y1 y2 y3 y4 y5)) ∧ (∀ y0 y1 y2 y3 y4 y5 y6 y7 y8 y9 y10 y11, LeO (party_Check.j3 k y0 y1 y2 y3 y4 y5 y6 y7 y8 y9 y10 y11) (party_Check.j3 (k + 1) y0 y1 y2 y3 y4 y5 y6 y7 y8 y9 y10 y11)) ∧ (∀ y0 y1 y2 y3 y4 y5 y6, LeO (party_Check.l2 k y0 y1 y2 y3 y4 y5 y6) (party_Check.l2 (k + 1) y0 y1 y2 y3 y4 y5 y6)) ∧ (∀ y0 y1 y2 y3 y4 y5, LeO (party_Check.l3 k y0 y1 y2 y3 y4 y5) (party_Check.l3 (k + 1) y0 y1 y2 y3 y4 y5)) ∧ (∀ y0 y1 y2 y3 y4 y5, LeO (party_Check.l4 k y0 y1 y2 y3 y4 y5) (party_Check.l4 (k + 1) y0 y1 y2 y3 y4 y5))
 | 0 => ⟨fun _ _ _ _ r h => by simp [party_Check.j0] at h, fun _ _ _ _ _ _ r h => by simp [party_Check.l0] at h, fun _ _ _ _ _ _ r h => by simp [party_Check.l1] at h, fun _ _ _ _ _ _ _ _ _ _ _ _ r h => by simp [party_Check.j3] at h, fun _ _ _ _ _ _ _ r h => by simp [party_Check.l2] at h, fun _ _ _ _ _ _ r h => by simp [party_Check.l3] at h, fun _ _ _ _ _ _ r h => by simp [party_Check.l4] at h⟩
 | k + 1 => by
  obtain ⟨ih0, ih1, ih2, ih3, ih4, ih5, ih6⟩ := party_Check.mono_l k
  refine ⟨?_, ?_, ?_, ?_, ?_, ?_, ?_⟩
  ·intro y0 y1 y2 y3
   unfold party_Check.j0
   repeat' first
   | (with_reducible exact ih0 _ _ _ _)
   | (with_reducible exact ih1 _ _ _ _ _ _)
   | (with_reducible exact ih2 _ _ _ _ _ _)
   | (with_reducible exact ih3 _ _ _ _ _ _ _ _ _ _ _ _)
   | (with_reducible exact ih4 _ _ _ _ _ _ _)
   | (with_reducible exact ih5 _ _ _ _ _ _)
   | (with_reducible exact ih6 _ _ _ _ _ _)
   | (with_reducible exact rational_Add.mono _ _ _ _ _ _ _)
   | (with_reducible exact rational_Compare.mono _ _ _ _ _ _ _)
   | (with_reducible exact rational_Int.mono _ _)
   | (with_reducible exact rational_Sign.mono _ _ _ _)
   | (with_reducible exact LeO.refl _)
   | (with_reducible exact LeO.none _)
   | (with_reducible refine LeO.ite ?_ ?_)
   | (with_reducible refine LeO.bind ?_ (fun _ => ?_))
   | exact LeO.none _
   | refine LeO.ite ?_ ?_
   | refine LeO.bind ?_ (fun _ => ?_)
  ·intro y0 y1 y2 y3 y4 y5
   unfold party_Check.l0
   repeat' first
   | (with_reducible exact ih0 _ _ _ _)
   | (with_reducible exact ih1 _ _ _ _ _ _)
   | (with_reducible exact ih2 _ _ _ _ _ _)
   | (with_reducible exact ih3 _ _ _ _ _ _ _ _ _ _ _ _)
   | (with_reducible exact ih4 _ _ _ _ _ _ _)
   | (with_reducible exact ih5 _ _ _ _ _ _)
   | (with_reducible exact ih6 _ _ _ _ _ _)
   | (with_reducible exact rational_Add.mono _ _ _ _ _ _ _)
   | (with_reducible exact rational_Compare.mono _ _ _ _ _ _ _)
   | (with_reducible exact rational_Int.mono _ _)
   | (with_reducible exact rational_Sign.mono _ _ _ _)
   | (with_reducible exact LeO.refl _)
   | (with_reducible exact LeO.none _)
   | (with_reducible refine LeO.ite ?_ ?_)
   | (with_reducible refine LeO.bind ?_ (fun _ => ?_))
   | exact LeO.none _
   | refine LeO.ite ?_ ?_
   | refine LeO.bind ?_ (fun _ => ?_)
  ·intro y0 y1 y2 y3 y4 y5
   unfold party_Check.l1
   repeat' first
   | (with_reducible exact ih0 _ _ _ _)
   | (with_reducible exact ih1 _ _ _ _ _ _)
   | (with_reducible exact ih2 _ _ _ _ _ _)
   | (with_reducible exact ih3 _ _ _ _ _ _ _ _ _ _ _ _)
   | (with_reducible exact ih4 _ _ _ _ _ _ _)
   | (with_reducible exact ih5 _ _ _ _ _ _)
   | (with_reducible exact ih6 _ _ _ _ _ _)
   | (with_reducible exact rational_Add.mono _ _ _ _ _ _ _)
   | (with_reducible exact rational_Compare.mono _ _ _ _ _ _ _)
   | (with_reducible exact rational_Int.mono _ _)
   | (with_reducible exact rational_Sign.mono _ _ _ _)
   | (with_reducible exact LeO.refl _)
   | (with_reducible exact LeO.none _)
   | (with_reducible refine LeO.ite ?_ ?_)
   | (with_reducible refine LeO.bind ?_ (fun _ => ?_))
   | exact LeO.none _
   | refine LeO.ite ?_ ?_
   | refine LeO.bind ?_ (fun _ => ?_)
  ·intro y0 y1 y2 y3 y4 y5 y6 y7 y8 y9 y10 y11
   unfold party_Check.j3
   repeat' first
   | (with_reducible exact ih0 _ _ _ _)
   | (with_reducible exact ih1 _ _ _ _ _ _)
   | (with_reducible exact ih2 _ _ _ _ _ _)
   | (with_reducible exact ih3 _ _ _ _ _ _ _ _ _ _ _ _)
   | (with_reducible exact ih4 _ _ _ _ _ _ _)
   | (with_reducible exact ih5 _ _ _ _ _ _)
   | (with_reducible exact ih6 _ _ _ _ _ _)
   | (with_reducible exact rational_Add.mono _ _ _ _ _ _ _)
   | (with_reducible exact rational_Compare.mono _ _ _ _ _ _ _)
   | (with_reducible exact rational_Int.mono _ _)
   | (with_reducible exact rational_Sign.mono _ _ _ _)
   | (with_reducible exact LeO.refl _)
   | (with_reducible exact LeO.none _)
   | (with_reducible refine LeO.ite ?_ ?_)
   | (with_reducible refine LeO.bind ?_ (fun _ => ?_))
   | exact LeO.none _
   | refine LeO.ite ?_ ?_
   | refine LeO.bind ?_ (fun _ => ?_)
  ·intro y0 y1 y2 y3 y4 y5 y6
   unfold party_Check.l2
   repeat' first
   | (with_reducible exact ih0 _ _ _ _)
   | (with_reducible exact ih1 _ _ _ _ _ _)
   | (with_reducible exact ih2 _ _ _ _ _ _)
   | (with_reducible exact ih3 _ _ _ _ _ _ _ _ _ _ _ _)
   | (with_reducible exact ih4 _ _ _ _ _ _ _)
   | (with_reducible exact ih5 _ _ _ _ _ _)
   | (with_reducible exact ih6 _ _ _ _ _ _)
   | (with_reducible exact rational_Add.mono _ _ _ _ _ _ _)
   | (with_reducible exact rational_Compare.mono _ _ _ _ _ _ _)
   | (with_reducible exact rational_Int.mono _ _)
   | (with_reducible exact rational_Sign.mono _ _ _ _)
   | (with_reducible exact LeO.refl _)
   | (with_reducible exact LeO.none _)
   | (with_reducible refine LeO.ite ?_ ?_)
   | (with_reducible refine LeO.bind ?_ (fun _ => ?_))
   | exact LeO.none _
   | refine LeO.ite ?_ ?_
   | refine LeO.bind ?_ (fun _ => ?_)
  ·intro y0 y1 y2 y3 y4 y5
   unfold party_Check.l3
   repeat' first
   | (with_reducible exact ih0 _ _ _ _)
   | (with_reducible exact ih1 _ _ _ _ _ _)
   | (with_reducible exact ih2 _ _ _ _ _ _)
   | (with_reducible exact ih3 _ _ _ _ _ _ _ _ _ _ _ _)
   | (with_reducible exact ih4 _ _ _ _ _ _ _)
   | (with_reducible exact ih5 _ _ _ _ _ _)
   | (with_reducible exact ih6 _ _ _ _ _ _)
   | (with_reducible exact rational_Add.mono _ _ _ _ _ _ _)
   | (with_reducible exact rational_Compare.mono _ _ _ _ _ _ _)
   | (with_reducible exact rational_Int.mono _ _)
   | (with_reducible exact rational_Sign.mono _ _ _ _)
   | (with_reducible exact LeO.refl _)
   | (with_reducible exact LeO.none _)
   | (with_reducible refine LeO.ite ?_ ?_)
   | (with_reducible refine LeO.bind ?_ (fun _ => ?_))
   | exact LeO.none _
   | refine LeO.ite ?_ ?_
   | refine LeO.bind ?_ (fun _ => ?_)
  ·intro y0 y1 y2 y3 y4 y5
   unfold party_Check.l4
   repeat' first
   | (with_reducible exact ih0 _ _ _ _)
   | (with_reducible exact ih1 _ _ _ _ _ _)
   | (with_reducible exact ih2 _ _ _ _ _ _)
   | (with_reducible exact ih3 _ _ _ _ _ _ _ _ _ _ _ _)
   | (with_reducible exact ih4 _ _ _ _ _ _ _)
   | (with_reducible exact ih5 _ _ _ _ _ _)
   | (with_reducible exact ih6 _ _ _ _ _ _)
   | (with_reducible exact rational_Add.mono _ _ _ _ _ _ _)
   | (with_reducible exact rational_Compare.mono _ _ _ _ _ _ _)
   | (with_reducible exact rational_Int.mono _ _)
   | (with_reducible exact rational_Sign.mono _ _ _ _)
   | (with_reducible exact LeO.refl _)
   | (with_reducible exact LeO.none _)
   | (with_reducible refine LeO.ite ?_ ?_)
   | (with_reducible refine LeO.bind ?_ (fun _ => ?_))
   | exact LeO.none _
   | refine LeO.ite ?_ ?_
   | refine LeO.bind ?_ (fun _ => ?_)
theorem party_Check.mono : ∀ a0 a1 a2 k, LeO (party_Check.f k a0 a1 a2) (party_Check.f (k + 1) a0 a1 a2) := by
 intro a0 a1 a2 k
 obtain ⟨ih0, ih1, ih2, ih3, ih4, ih5, ih6⟩ := party_Check.mono_l k
 unfold party_Check.f
 repeat' first
   | (with_reducible exact ih0 _ _ _ _)
   | (with_reducible exact ih1 _ _ _ _ _ _)
   | (with_reducible exact ih2 _ _ _ _ _ _)
   | (with_reducible exact ih3 _ _ _ _ _ _ _ _ _ _ _ _)
   | (with_reducible exact ih4 _ _ _ _ _ _ _)
   | (with_reducible exact ih5 _ _ _ _ _ _)
   | (with_reducible exact ih6 _ _ _ _ _ _)
   | (with_reducible exact rational_Add.mono _ _ _ _ _ _ _)
   | (with_reducible exact rational_Compare.mono _ _ _ _ _ _ _)
   | (with_reducible exact rational_Int.mono _ _)
   | (with_reducible exact rational_Sign.mono _ _ _ _)
   | (with_reducible exact LeO.refl _)
   | (with_reducible exact LeO.none _)
   | (with_reducible refine LeO.ite ?_ ?_)
   | (with_reducible refine LeO.bind ?_ (fun _ => ?_))
   | exact LeO.none _
   | refine LeO.ite ?_ ?_
   | refine LeO.bind ?_ (fun _ => ?_)
def party_Check.T21 : Bool × List (List Nat × List Nat) := (true, [([], []), ([], []), ([1], [1]), ([], []), ([], []), ([4], [4]), ([3, 5], [3, 5]), ([6], [6]), ([], []), ([8], [8]), ([7, 9], [7, 9]), ([0, 2, 0, 1, 2, 3, 4, 5, 6, 7, 8, 9, 10], [0, 2]), ([11, 10, 10, 0, 1, 2, 3, 4, 5, 6, 7, 8, 9, 10], [10, 11])])
def party_Check.B21 : List Nat := [0, 0, 2, 0, 0, 16, 56, 120, 0, 256, 1016, 2047, 4095]
theorem party_Check.tab21 : rtab .any (opsOf Tryd.f11 21) = party_Check.T21 := by kernel_rfl
theorem party_Check.bits21 : waitsOk party_Check.T21.2 party_Check.B21 = true := by kernel_rfl
set_option maxHeartbeats 8000000 in
set_option maxRecDepth 100000 in
theorem party_Check.calls (k : Nat) (A0_0 : Option Addr) (c0_0 : Nat) (l0_0 : List Int) (A0_1 : Option Addr) (c0_1 : Nat) (l0_1 : List (S36)) (A0_2 : Option Addr) (c0_2 : Nat) (l0_2 : List (S38)) (r : Int) (w : World) (hr0_0 : Kd.C (Kd.int .i64) w A0_0 l0_0.length l0_0) (hc0_0 : l0_0.length ≤ c0_0) (hr0_1 : Kd.C k36 w A0_1 l0_1.length l0_1) (hc0_1 : l0_1.length ≤ c0_1) (hr0_2 : Kd.C k38 w A0_2 l0_2.length l0_2) (hc0_2 : l0_2.length ≤ c0_2) (h : party_Check.f k l0_0 l0_1 l0_2 = some r) :
  Calls Tryd.prog 11 #[.agg #[.slice A0_0 l0_0.length c0_0, .slice A0_1 l0_1.length c0_1, .slice A0_2 l0_2.length c0_2]] w fun e w' => e = .returned (.int .i64 r) ∧ Below w.heap.size w w' := by
 have hu26 := Tryd.underlying26
 have hu36 := Tryd.underlying36
 have hu33 := Tryd.underlying33
 have hu38 := Tryd.underlying38
 have HR0_0 := Aside0.mk hr0_0
 have HC0_0 := Aside0.mk hc0_0
 clear hr0_0 hc0_0
 have HR0_1 := Aside0.mk hr0_1
 have HC0_1 := Aside0.mk hc0_1
 clear hr0_1 hc0_1
 have HR0_2 := Aside0.mk hr0_2
 have HC0_2 := Aside0.mk hc0_2
 clear hr0_2 hc0_2
 have HB := aM (Below.refl w.heap.size w)
 have H : (if (l0_0.length : Int) > 32 then (party_Check.j0 k true l0_0 l0_1 l0_2) else (if (l0_1.length : Int) > 64 then (party_Check.j0 k true l0_0 l0_1 l0_2) else (party_Check.j0 k (decide ((l0_2.length : Int) > 64)) l0_0 l0_1 l0_2))) = some r := h
 clear h
 have HC2 := Aside0.mk H
 clear H
 go_enter Tryd.func11, Tryd.ntmps11
 go_upto_region 1 with (first | ((with_reducible refine gate_dst (N := 1) rfl ?_); refine box_event ?hg (N := 1) ?hd (cs := #[.slice A0_0 l0_0.length c0_0, .slice A0_1 l0_1.length c0_1, .slice A0_2 l0_2.length c0_2]) (t := 26) ?hr ?_; (case hd => rfl); (case hg => rfl); (case hr => first | (go_simp; done) | (go_simp; rfl)); intro gb447 hg w3 hbox hb; have n0_ := aM (below_step (bU HB.out) hb); have n1_ := aM (hbox); have n2_ := aM ((by rw [hg]; exact (below_size (bU HB.out)) : w.heap.size ≤ gb447)); have n3_ := aM ((by rw [hg]; exact (below_size (bU HB.out)) : w.heap.size ≤ gb447)); clear HB; have HB := n0_; have BK447 := n1_; have GW447 := n2_; have GE447 := n3_; clear n0_ n1_ n2_ n3_; clear hb hbox hg))
 (try simp only [Act.put, List.setIfInBounds_toArray, List.set_cons_zero, List.set_cons_succ])
 go_cut [29] (fun v29 wc => ∃ (kq : Nat) (x29_1 : Bool), v29 = .bool x29_1 ∧ Aside0 (party_Check.j0 kq x29_1 l0_0 l0_1 l0_2 = some r) ∧ Aside0 (kq ≤ k) ∧ Aside0 (wc.heap[gb447]? = some (.cells #[(.slice A0_0 l0_0.length c0_0), (.slice A0_1 l0_1.length c0_1), (.slice A0_2 l0_2.length c0_2)] 26 (0, 0))) ∧ Aside0 (Below w.heap.size w wc))
 case first =>
  have H := HC2.out
  clear HC2
  by_cases c4 : (l0_0.length : Int) > 32
  ·rw [if_pos c4] at H
   have c4b0 : decide (32 < (l0_0.length : Int)) = true := decide_eq_true c4
   have c4b1 : decide (32 < l0_0.length) = true := decide_eq_true (by omega)
   clear c4
   (first | rw [c4b0] | (simp only [i64_w, i32_w]; rw [c4b0]) | rw [c4b1] | skip)
   have H' := Aside0.mk H
   clear H
   obtain ⟨hcz5_0, hcz5_1, hcz5_2, hfz5_0, hfz5_1, hfz5_2⟩ := cz3 BK447.out
   go_wp2
   go_meet
   case rel => exact ⟨_, (true), (by first | rfl | (simp; done) | (simp [*]; done)), H', ⟨by first | omega | exact Nat.le_refl _⟩, ⟨kU BK447.out⟩, ⟨bU HB.out⟩⟩
  ·rw [if_neg c4] at H
   have c4b0 : decide (32 < (l0_0.length : Int)) = false := decide_eq_false c4
   have c4b1 : decide (32 < l0_0.length) = false := decide_eq_false (by omega)
   clear c4
   (first | rw [c4b0] | (simp only [i64_w, i32_w]; rw [c4b0]) | rw [c4b1] | skip)
   by_cases c6 : (l0_1.length : Int) > 64
   ·rw [if_pos c6] at H
    have c6b0 : decide (64 < (l0_1.length : Int)) = true := decide_eq_true c6
    have c6b1 : decide (64 < l0_1.length) = true := decide_eq_true (by omega)
    clear c6
    have H' := Aside0.mk H
    clear H
    obtain ⟨hcz7_0, hcz7_1, hcz7_2, hfz7_0, hfz7_1, hfz7_2⟩ := cz3 BK447.out
    go_wp2
    go_meet
    case rel => exact ⟨_, (true), (by first | rfl | (simp; done) | (simp [*]; done)), H', ⟨by first | omega | exact Nat.le_refl _⟩, ⟨kU BK447.out⟩, ⟨bU HB.out⟩⟩
   ·rw [if_neg c6] at H
    have c6b0 : decide (64 < (l0_1.length : Int)) = false := decide_eq_false c6
    have c6b1 : decide (64 < l0_1.length) = false := decide_eq_false (by omega)
    clear c6
    have H' := Aside0.mk H
    clear H
    obtain ⟨hcz8_0, hcz8_1, hcz8_2, hfz8_0, hfz8_1, hfz8_2⟩ := cz3 BK447.out
    go_wp2
    go_meet
    case rel => exact ⟨_, (decide ((l0_2.length : Int) > 64)), (by first | rfl | (simp; done) | (simp [*]; done)), H', ⟨by first | omega | exact Nat.le_refl _⟩, ⟨kU BK447.out⟩, ⟨bU HB.out⟩⟩
 case rest =>
  clear HC2
  (try clear c1); (try clear p2); (try clear c4); (try clear c4b0); (try clear c4b1); (try clear c6); (try clear c6b0); (try clear c6b1); (try clear hcz5_0 hcz5_1 hcz5_2); (try clear hcz7_0 hcz7_1 hcz7_2); (try clear hcz8_0 hcz8_1 hcz8_2); (try clear hfz5_0 hfz5_1 hfz5_2); (try clear hfz7_0 hfz7_1 hfz7_2); (try clear hfz8_0 hfz8_1 hfz8_2)
  obtain ⟨kq, x29_1, rfl, HA, HJ1, BK447, HB⟩ := hcut
  cases kq with
  | zero => exact absurd HA.out (by simp [party_Check.j0])
  | succ kj1 =>
   have H := HA.out
   clear HA
   simp only [party_Check.j0] at H
   by_cases c9 : x29_1 = true
   ·subst c9
    have H1 : (some 2) = some r := by rw [if_pos rfl] at H; exact H
    clear H
    have H := H1
    clear H1
    obtain rfl := Option.some.inj H
    go_wp2
    go_ret
    exact ⟨by first | rfl | (simp [errW_none, errW_some] <;> rfl) | (simp [*, errW_none, errW_some] <;> rfl), bU HB.out⟩
   ·replace c9 := Bool.eq_false_iff.mpr c9
    subst c9
    have H1 : (party_Check.l0 kj1 l0_0 (l0_0.length : Int) 0 l0_0 l0_1 l0_2) = some r := by rw [if_neg (show ¬ (false = true) by decide)] at H; exact H
    clear H
    have H := H1
    clear H1
    have H' := Aside0.mk H
    clear H
    obtain ⟨hcz10_0, hcz10_1, hcz10_2, hfz10_0, hfz10_1, hfz10_2⟩ := cz3 BK447.out
    go_wp2
    go_loopg [33] kj1 (fun kq v33 w' => ∃ (x33_2 : Int), v33 = .int .i64 x33_2 ∧ Aside0 (party_Check.l0 kq l0_0 (l0_0.length : Int) x33_2 l0_0 l0_1 l0_2 = some r) ∧ Aside0 (kq ≤ kj1) ∧ Aside0 (w'.heap[gb447]? = some (.cells #[(.slice A0_0 l0_0.length c0_0), (.slice A0_1 l0_1.length c0_1), (.slice A0_2 l0_2.length c0_2)] 26 (0, 0))) ∧ Aside0 (Below w.heap.size w w'))
    case atStart => exact ⟨(0), (by first | rfl | (simp; done) | (simp [*]; done)), H', ⟨Nat.le_refl _⟩, ⟨kU BK447.out⟩, ⟨bU HB.out⟩⟩
    case round =>
     clear H'
     (try clear c1); (try clear p2); (try clear c4); (try clear c4b0); (try clear c4b1); (try clear c6); (try clear c6b0); (try clear c6b1); (try clear c9); (try clear hcz10_0 hcz10_1 hcz10_2); (try clear hcz5_0 hcz5_1 hcz5_2); (try clear hcz7_0 hcz7_1 hcz7_2); (try clear hcz8_0 hcz8_1 hcz8_2); (try clear hfz10_0 hfz10_1 hfz10_2); (try clear hfz5_0 hfz5_1 hfz5_2); (try clear hfz7_0 hfz7_1 hfz7_2); (try clear hfz8_0 hfz8_1 hfz8_2); (try clear p2)
     obtain ⟨x33_2, rfl, HA, HK2, BK447, HB⟩ := hrel
     cases gk with
     | zero => exact absurd HA.out (by simp [party_Check.l0])
     | succ k2 =>
      have H := HA.out
      clear HA
      simp only [party_Check.l0] at H
      by_cases c11 : x33_2 < (l0_0.length : Int)
      ·rw [if_pos c11] at H
       have c11b0 := decide_eq_true c11
       clear c11
       by_cases c12 : 0 ≤ x33_2
       ·rw [if_pos c12] at H
        have c12b0 := decide_eq_true c12
        clear c12
        by_cases c13 : x33_2 < (l0_0.length : Int)
        ·rw [if_pos c13] at H
         have c13b0 := decide_eq_true c13
         clear c13
         by_cases c14 : (rd l0_0 x33_2) = 1
         ·rw [if_pos c14] at H
          have c14b0 : ((rd l0_0 x33_2) == 1) = true := beq_iff_eq.mpr c14
          have c14b1 : ((rd l0_0 x33_2) != 1) = false := bne_eq_false_iff_eq.mpr c14
          clear c14
          have H' := Aside0.mk H
          clear H
          have p448 : 0 ≤ (x33_2 : Int) := oD
          have q448 : x33_2 < (l0_0.length : Int) := oD
          obtain ⟨ad448, e448, hx448_0⟩ := Kd.at_int HR0_0.out x33_2 p448 q448
          cases e448
          replace hx448_0 := (HB.out.cell (World.block_lt_of_cell? w _ hx448_0)).trans hx448_0
          replace p448 := eq_true p448
          replace q448 := eq_true q448
          go_wp2
          go_roundg k2
          case measure => have := HJ1.out; have := HK2.out; omega
          case rel => exact ⟨(wrap64 (x33_2 + 1)), (by first | rfl | (simp; done) | (simp [*]; done)), H', ⟨by have := HJ1.out; have := HK2.out; omega⟩, ⟨kU BK447.out⟩, ⟨bU HB.out⟩⟩
         ·rw [if_neg c14] at H
          have c14b0 : ((rd l0_0 x33_2) == 1) = false := beq_eq_false_iff_ne.mpr c14
          have c14b1 : ((rd l0_0 x33_2) != 1) = true := bne_iff_ne.mpr c14
          by_cases c15 : (rd l0_0 x33_2) = 2
          ·rw [if_pos c15] at H
           have c15b0 : ((rd l0_0 x33_2) == 2) = true := beq_iff_eq.mpr c15
           have c15b1 : ((rd l0_0 x33_2) != 2) = false := bne_eq_false_iff_eq.mpr c15
           clear c15
           have H' := Aside0.mk H
           clear H
           have p448 : 0 ≤ (x33_2 : Int) := oD
           have q448 : x33_2 < (l0_0.length : Int) := oD
           obtain ⟨ad448, e448, hx448_0⟩ := Kd.at_int HR0_0.out x33_2 p448 q448
           cases e448
           replace hx448_0 := (HB.out.cell (World.block_lt_of_cell? w _ hx448_0)).trans hx448_0
           replace p448 := eq_true p448
           replace q448 := eq_true q448
           go_wp2
           go_roundg k2
           case measure => have := HJ1.out; have := HK2.out; omega
           case rel => exact ⟨(wrap64 (x33_2 + 1)), (by first | rfl | (simp; done) | (simp [*]; done)), H', ⟨by have := HJ1.out; have := HK2.out; omega⟩, ⟨kU BK447.out⟩, ⟨bU HB.out⟩⟩
          ·rw [if_neg c15] at H
           have c15b0 : ((rd l0_0 x33_2) == 2) = false := beq_eq_false_iff_ne.mpr c15
           have c15b1 : ((rd l0_0 x33_2) != 2) = true := bne_iff_ne.mpr c15
           obtain rfl := Option.some.inj H
           have p448 : 0 ≤ (x33_2 : Int) := oD
           have q448 : x33_2 < (l0_0.length : Int) := oD
           obtain ⟨ad448, e448, hx448_0⟩ := Kd.at_int HR0_0.out x33_2 p448 q448
           cases e448
           replace hx448_0 := (HB.out.cell (World.block_lt_of_cell? w _ hx448_0)).trans hx448_0
           replace p448 := eq_true p448
           replace q448 := eq_true q448
           go_wp2
           go_ret
           exact ⟨by first | rfl | (simp [errW_none, errW_some] <;> rfl) | (simp [*, errW_none, errW_some] <;> rfl), bU HB.out⟩
        ·rw [if_neg c13] at H
         exact absurd H (by simp)
       ·rw [if_neg c12] at H
        exact absurd H (by simp)
      ·rw [if_neg c11] at H
       have c11b0 := decide_eq_false c11
       clear c11
       have H' := Aside0.mk H
       clear H
       obtain ⟨hcz16_0, hcz16_1, hcz16_2, hfz16_0, hfz16_1, hfz16_2⟩ := cz3 BK447.out
       go_wp2
       go_loopg [47] k2 (fun kq v47 w' => ∃ (x47_3 : Int), v47 = .int .i64 x47_3 ∧ Aside0 (party_Check.l1 kq l0_1 (l0_1.length : Int) x47_3 l0_0 l0_1 l0_2 = some r) ∧ Aside0 (kq ≤ k2) ∧ Aside0 (w'.heap[gb447]? = some (.cells #[(.slice A0_0 l0_0.length c0_0), (.slice A0_1 l0_1.length c0_1), (.slice A0_2 l0_2.length c0_2)] 26 (0, 0))) ∧ Aside0 (Below w.heap.size w w'))
       case atStart => exact ⟨(0), (by first | rfl | (simp; done) | (simp [*]; done)), H', ⟨Nat.le_refl _⟩, ⟨kU BK447.out⟩, ⟨bU HB.out⟩⟩
       case round =>
        clear H'
        (try clear c1); (try clear p2); (try clear c4); (try clear c4b0); (try clear c4b1); (try clear p4); (try clear q4); (try clear hx4); (try clear c6); (try clear c6b0); (try clear c6b1); (try clear p6); (try clear c9); (try clear c11); (try clear c11b0); (try clear c12); (try clear c12b0); (try clear c13); (try clear c13b0); (try clear c14); (try clear c14b0); (try clear c14b1); (try clear c15); (try clear c15b0); (try clear c15b1); (try clear hcz10_0 hcz10_1 hcz10_2); (try clear hcz16_0 hcz16_1 hcz16_2); (try clear hcz5_0 hcz5_1 hcz5_2); (try clear hcz7_0 hcz7_1 hcz7_2); (try clear hcz8_0 hcz8_1 hcz8_2); (try clear hfz10_0 hfz10_1 hfz10_2); (try clear hfz16_0 hfz16_1 hfz16_2); (try clear hfz5_0 hfz5_1 hfz5_2); (try clear hfz7_0 hfz7_1 hfz7_2); (try clear hfz8_0 hfz8_1 hfz8_2); (try clear hx448_0); (try clear p2); (try clear p448); (try clear q448)
        obtain ⟨x47_3, rfl, HA, HK3, BK447, HB⟩ := hrel
        cases gk with
        | zero => exact absurd HA.out (by simp [party_Check.l1])
        | succ k3 =>
         have H := HA.out
         clear HA
         simp only [party_Check.l1] at H
         by_cases c17 : x47_3 < (l0_1.length : Int)
         ·rw [if_pos c17] at H
          have c17b0 := decide_eq_true c17
          clear c17
          by_cases c18 : 0 ≤ x47_3
          ·rw [if_pos c18] at H
           have c18b0 := decide_eq_true c18
           clear c18
           by_cases c19 : x47_3 < (l0_1.length : Int)
           ·rw [if_pos c19] at H
            have c19b0 := decide_eq_true c19
            clear c19
            have HC20 := Aside0.mk H
            clear H
            have p449 : 0 ≤ (x47_3 : Int) := oD
            have q449 : x47_3 < (l0_1.length : Int) := oD
            obtain ⟨ad449, e449, hx449_0, hx449_1, hx449_2, hx449_3, hx449_4⟩ := at_T36 HR0_1.out x47_3 p449 q449
            cases e449
            replace hx449_0 := (HB.out.cell (World.block_lt_of_cell? w _ hx449_0)).trans hx449_0
            replace hx449_1 := (HB.out.cell (World.block_lt_of_cell? w _ hx449_1)).trans hx449_1
            replace hx449_2 := (HB.out.cell (World.block_lt_of_cell? w _ hx449_2)).trans hx449_2
            replace hx449_3 := (HB.out.cell (World.block_lt_of_cell? w _ hx449_3)).trans hx449_3
            replace hx449_4 := (HB.out.cell (World.block_lt_of_cell? w _ hx449_4)).trans hx449_4
            replace p449 := eq_true p449
            replace q449 := eq_true q449
            go_upto_region 12 with (first | ((with_reducible refine gate_dst (N := 6) rfl ?_); refine box_event ?hg (N := 6) ?hd (cs := #[.int .i64 0, .int .i64 0, .bool false, .string (⟨#[]⟩ : ByteArray), .string (⟨#[]⟩ : ByteArray)]) (t := 36) ?hr ?_; (case hd => rfl); (case hg => rfl); (case hr => first | (go_simp; done) | (go_simp; rfl)); intro gb450 hg w21 hbox hb; have n0_ := aM (blk_below (kU BK447.out) hb); have n1_ := aM (below_step (bU HB.out) hb); have n2_ := aM (hbox); have n3_ := aM ((by rw [hg]; exact (below_size (bU HB.out)) : w.heap.size ≤ gb450)); have n4_ := aM ((by rw [hg]; exact (below_size (bU HB.out)) : w.heap.size ≤ gb450)); have n5_ := aM ((by rw [hg]; exact Nat.ne_of_lt (blk_lt (kU BK447.out)) : gb447 ≠ gb450)); have n6_ := aM ((by rw [hg]; exact Nat.ne_of_gt (blk_lt (kU BK447.out)) : gb450 ≠ gb447)); clear BK447; clear HB; have BK447 := n0_; have HB := n1_; have BK450 := n2_; have GW450 := n3_; have GE450 := n4_; have NB447_450 := n5_; have NB450_447 := n6_; clear n0_ n1_ n2_ n3_ n4_ n5_ n6_; clear hb hbox hg; have hnb22 := NB450_447.out; have hnc22 := NB447_450.out; obtain ⟨hcz23_0, hcz23_1, hcz23_2, hcz23_3, hcz23_4, hfz23_0, hfz23_1, hfz23_2, hfz23_3, hfz23_4⟩ := cz5 BK450.out))
            (try simp only [Act.put, List.setIfInBounds_toArray, List.set_cons_zero, List.set_cons_succ])
            go_cut [51] (fun v51 wc => ∃ (kq : Nat) (x51_19 : Bool), v51 = .bool x51_19 ∧ Aside0 (party_Check.j3 kq l0_1 (l0_1.length : Int) x47_3 x51_19 l0_0 l0_1 l0_2 ((rd_T36 l0_1 x47_3).f0) ((rd_T36 l0_1 x47_3).f1) ((rd_T36 l0_1 x47_3).f2.f0) ((rd_T36 l0_1 x47_3).f2.f1) ((rd_T36 l0_1 x47_3).f2.f2) = some r) ∧ Aside0 (kq ≤ k3) ∧ Aside0 (wc.heap[gb447]? = some (.cells #[(.slice A0_0 l0_0.length c0_0), (.slice (some ad449) l0_1.length c0_1), (.slice A0_2 l0_2.length c0_2)] 26 (0, 0))) ∧ Aside0 (wc.heap[gb450]? = some (.cells #[.int .i64 ((rd_T36 l0_1 x47_3).f0), .int .i64 ((rd_T36 l0_1 x47_3).f1), .bool ((rd_T36 l0_1 x47_3).f2.f0), .string ((rd_T36 l0_1 x47_3).f2.f1), .string ((rd_T36 l0_1 x47_3).f2.f2)] 36 (0, 0))) ∧ Aside0 (Below w.heap.size w wc))
            case first =>
             have H := HC20.out
             clear HC20
             replace H := bE H
             obtain ⟨t451, A240, H⟩ := H
             replace H : (if t451 = true then ((party_is.f l0_0 l0_1 l0_2 ((rd_T36 l0_1 x47_3).f1)).bind fun t452 => (if t452 = true then (if 0 ≤ ((rd_T36 l0_1 x47_3).f1) then (if ((rd_T36 l0_1 x47_3).f1) < (l0_0.length : Int) then (if (rd l0_0 ((rd_T36 l0_1 x47_3).f1)) = 2 then (party_Check.j3 k3 l0_1 (l0_1.length : Int) x47_3 (((rd_T36 l0_1 x47_3).f0) == ((rd_T36 l0_1 x47_3).f1)) l0_0 l0_1 l0_2 ((rd_T36 l0_1 x47_3).f0) ((rd_T36 l0_1 x47_3).f1) ((rd_T36 l0_1 x47_3).f2.f0) ((rd_T36 l0_1 x47_3).f2.f1) ((rd_T36 l0_1 x47_3).f2.f2)) else (party_Check.j3 k3 l0_1 (l0_1.length : Int) x47_3 true l0_0 l0_1 l0_2 ((rd_T36 l0_1 x47_3).f0) ((rd_T36 l0_1 x47_3).f1) ((rd_T36 l0_1 x47_3).f2.f0) ((rd_T36 l0_1 x47_3).f2.f1) ((rd_T36 l0_1 x47_3).f2.f2))) else (none)) else (none)) else (party_Check.j3 k3 l0_1 (l0_1.length : Int) x47_3 true l0_0 l0_1 l0_2 ((rd_T36 l0_1 x47_3).f0) ((rd_T36 l0_1 x47_3).f1) ((rd_T36 l0_1 x47_3).f2.f0) ((rd_T36 l0_1 x47_3).f2.f1) ((rd_T36 l0_1 x47_3).f2.f2)))) else (party_Check.j3 k3 l0_1 (l0_1.length : Int) x47_3 true l0_0 l0_1 l0_2 ((rd_T36 l0_1 x47_3).f0) ((rd_T36 l0_1 x47_3).f1) ((rd_T36 l0_1 x47_3).f2.f0) ((rd_T36 l0_1 x47_3).f2.f1) ((rd_T36 l0_1 x47_3).f2.f2))) = some r := H
             have A24 := Aside0.mk A240
             clear A240
             by_cases c25 : t451 = true
             ·subst c25
              have H1 : ((party_is.f l0_0 l0_1 l0_2 ((rd_T36 l0_1 x47_3).f1)).bind fun t452 => (if t452 = true then (if 0 ≤ ((rd_T36 l0_1 x47_3).f1) then (if ((rd_T36 l0_1 x47_3).f1) < (l0_0.length : Int) then (if (rd l0_0 ((rd_T36 l0_1 x47_3).f1)) = 2 then (party_Check.j3 k3 l0_1 (l0_1.length : Int) x47_3 (((rd_T36 l0_1 x47_3).f0) == ((rd_T36 l0_1 x47_3).f1)) l0_0 l0_1 l0_2 ((rd_T36 l0_1 x47_3).f0) ((rd_T36 l0_1 x47_3).f1) ((rd_T36 l0_1 x47_3).f2.f0) ((rd_T36 l0_1 x47_3).f2.f1) ((rd_T36 l0_1 x47_3).f2.f2)) else (party_Check.j3 k3 l0_1 (l0_1.length : Int) x47_3 true l0_0 l0_1 l0_2 ((rd_T36 l0_1 x47_3).f0) ((rd_T36 l0_1 x47_3).f1) ((rd_T36 l0_1 x47_3).f2.f0) ((rd_T36 l0_1 x47_3).f2.f1) ((rd_T36 l0_1 x47_3).f2.f2))) else (none)) else (none)) else (party_Check.j3 k3 l0_1 (l0_1.length : Int) x47_3 true l0_0 l0_1 l0_2 ((rd_T36 l0_1 x47_3).f0) ((rd_T36 l0_1 x47_3).f1) ((rd_T36 l0_1 x47_3).f2.f0) ((rd_T36 l0_1 x47_3).f2.f1) ((rd_T36 l0_1 x47_3).f2.f2)))) = some r := by rw [if_pos rfl] at H; exact H
              clear H
              have H := H1
              clear H1
              replace H := bE H
              obtain ⟨t452, A260, H⟩ := H
              replace H : (if t452 = true then (if 0 ≤ ((rd_T36 l0_1 x47_3).f1) then (if ((rd_T36 l0_1 x47_3).f1) < (l0_0.length : Int) then (if (rd l0_0 ((rd_T36 l0_1 x47_3).f1)) = 2 then (party_Check.j3 k3 l0_1 (l0_1.length : Int) x47_3 (((rd_T36 l0_1 x47_3).f0) == ((rd_T36 l0_1 x47_3).f1)) l0_0 l0_1 l0_2 ((rd_T36 l0_1 x47_3).f0) ((rd_T36 l0_1 x47_3).f1) ((rd_T36 l0_1 x47_3).f2.f0) ((rd_T36 l0_1 x47_3).f2.f1) ((rd_T36 l0_1 x47_3).f2.f2)) else (party_Check.j3 k3 l0_1 (l0_1.length : Int) x47_3 true l0_0 l0_1 l0_2 ((rd_T36 l0_1 x47_3).f0) ((rd_T36 l0_1 x47_3).f1) ((rd_T36 l0_1 x47_3).f2.f0) ((rd_T36 l0_1 x47_3).f2.f1) ((rd_T36 l0_1 x47_3).f2.f2))) else (none)) else (none)) else (party_Check.j3 k3 l0_1 (l0_1.length : Int) x47_3 true l0_0 l0_1 l0_2 ((rd_T36 l0_1 x47_3).f0) ((rd_T36 l0_1 x47_3).f1) ((rd_T36 l0_1 x47_3).f2.f0) ((rd_T36 l0_1 x47_3).f2.f1) ((rd_T36 l0_1 x47_3).f2.f2))) = some r := H
              have A26 := Aside0.mk A260
              clear A260
              by_cases c27 : t452 = true
              ·subst c27
               have H1 : (if 0 ≤ ((rd_T36 l0_1 x47_3).f1) then (if ((rd_T36 l0_1 x47_3).f1) < (l0_0.length : Int) then (if (rd l0_0 ((rd_T36 l0_1 x47_3).f1)) = 2 then (party_Check.j3 k3 l0_1 (l0_1.length : Int) x47_3 (((rd_T36 l0_1 x47_3).f0) == ((rd_T36 l0_1 x47_3).f1)) l0_0 l0_1 l0_2 ((rd_T36 l0_1 x47_3).f0) ((rd_T36 l0_1 x47_3).f1) ((rd_T36 l0_1 x47_3).f2.f0) ((rd_T36 l0_1 x47_3).f2.f1) ((rd_T36 l0_1 x47_3).f2.f2)) else (party_Check.j3 k3 l0_1 (l0_1.length : Int) x47_3 true l0_0 l0_1 l0_2 ((rd_T36 l0_1 x47_3).f0) ((rd_T36 l0_1 x47_3).f1) ((rd_T36 l0_1 x47_3).f2.f0) ((rd_T36 l0_1 x47_3).f2.f1) ((rd_T36 l0_1 x47_3).f2.f2))) else (none)) else (none)) = some r := by rw [if_pos rfl] at H; exact H
               clear H
               have H := H1
               clear H1
               by_cases c28 : 0 ≤ ((rd_T36 l0_1 x47_3).f1)
               ·rw [if_pos c28] at H
                have c28b0 := decide_eq_true c28
                clear c28
                (first | rw [c28b0] | (simp only [i64_w, i32_w]; rw [c28b0]) | rw [c28b1] | skip)
                by_cases c29 : ((rd_T36 l0_1 x47_3).f1) < (l0_0.length : Int)
                ·rw [if_pos c29] at H
                 have c29b0 := decide_eq_true c29
                 clear c29
                 by_cases c30 : (rd l0_0 ((rd_T36 l0_1 x47_3).f1)) = 2
                 ·rw [if_pos c30] at H
                  have c30b0 : ((rd l0_0 ((rd_T36 l0_1 x47_3).f1)) == 2) = true := beq_iff_eq.mpr c30
                  have c30b1 : ((rd l0_0 ((rd_T36 l0_1 x47_3).f1)) != 2) = false := bne_eq_false_iff_eq.mpr c30
                  clear c30
                  have H' := Aside0.mk H
                  clear H
                  have hnb31 := NB447_450.out
                  have hnc31 := NB450_447.out
                  obtain ⟨hcz32_0, hcz32_1, hcz32_2, hfz32_0, hfz32_1, hfz32_2⟩ := cz3 BK447.out
                  obtain ⟨hcz33_0, hcz33_1, hcz33_2, hcz33_3, hcz33_4, hfz33_0, hfz33_1, hfz33_2, hfz33_3, hfz33_4⟩ := cz5 BK450.out
                  go_wp2_with (first | ((with_reducible refine gate_callee (f := 21) rfl ?_); refine goesLq (some 55) rfl rfl Tryd.func21 #[.agg #[.slice A0_0 l0_0.length c0_0, .slice (some ad449) l0_1.length c0_1, .slice A0_2 l0_2.length c0_2], .int .i64 ((rd_T36 l0_1 x47_3).f0)] rfl ?_; (with_reducible refine (party_is.calls _ _ l0_0 _ _ l0_1 _ _ l0_2 ((rd_T36 l0_1 x47_3).f0) true _ ?side1 ?side2 ?side3 ?side4 ?side5 ?side6 A24.out).mono ?_); (case side1 => exact Kd.C_below HR0_0.out (bU HB.out)); (case side2 => exact HC0_0.out); (case side3 => exact Kd.C_below HR0_1.out (bU HB.out)); (case side4 => exact HC0_1.out); (case side5 => exact Kd.C_below HR0_2.out (bU HB.out)); (case side6 => exact HC0_2.out); rintro e w34 ⟨rfl, hb⟩; refine ⟨_, rfl, ?_⟩; have n0_ := aM (blk_below (g := gb447) (o := .cells #[.slice A0_0 l0_0.length c0_0, .slice (some ad449) l0_1.length c0_1, .slice A0_2 l0_2.length c0_2] 26 (0, 0)) (kP BK447.out) hb); have n1_ := aM (blk_below (g := gb450) (o := .cells #[.int .i64 ((rd_T36 l0_1 x47_3).f0), .int .i64 ((rd_T36 l0_1 x47_3).f1), .bool ((rd_T36 l0_1 x47_3).f2.f0), .string ((rd_T36 l0_1 x47_3).f2.f1), .string ((rd_T36 l0_1 x47_3).f2.f2)] 36 (0, 0)) (kP BK450.out) hb); have n2_ := aM (below_step (bU HB.out) hb); clear BK447; clear BK450; clear HB; have BK447 := n0_; have BK450 := n1_; have HB := n2_; clear n0_ n1_ n2_; (try clear hb); (try clear hb2); (try clear hk); (try clear hi); obtain ⟨hcz35_0, hcz35_1, hcz35_2, hfz35_0, hfz35_1, hfz35_2⟩ := cz3 BK447.out; obtain ⟨hcz36_0, hcz36_1, hcz36_2, hcz36_3, hcz36_4, hfz36_0, hfz36_1, hfz36_2, hfz36_3, hfz36_4⟩ := cz5 BK450.out) | (go_at_call 21; (with_reducible refine (party_is.calls _ _ l0_0 _ _ l0_1 _ _ l0_2 ((rd_T36 l0_1 x47_3).f1) true _ ?side1 ?side2 ?side3 ?side4 ?side5 ?side6 A26.out).mono ?_); (case side1 => exact Kd.C_up (Kd.C_below HR0_0.out HB.out)); (case side2 => exact HC0_0.out); (case side3 => exact Kd.C_up (Kd.C_below HR0_1.out HB.out)); (case side4 => exact HC0_1.out); (case side5 => exact Kd.C_up (Kd.C_below HR0_2.out HB.out)); (case side6 => exact HC0_2.out); rintro e w37 ⟨rfl, hb⟩; have n0_ := aM (blk_below (kU BK447.out) hb); have n1_ := aM (blk_below (kU BK450.out) hb); have n2_ := aM (below_step (bU HB.out) hb); clear BK447; clear BK450; clear HB; have BK447 := n0_; have BK450 := n1_; have HB := n2_; clear n0_ n1_ n2_; (try clear hb); (try clear hb2); (try clear hk); (try clear hi); obtain ⟨hcz38_0, hcz38_1, hcz38_2, hfz38_0, hfz38_1, hfz38_2⟩ := cz3 BK447.out; obtain ⟨hcz39_0, hcz39_1, hcz39_2, hcz39_3, hcz39_4, hfz39_0, hfz39_1, hfz39_2, hfz39_3, hfz39_4⟩ := cz5 BK450.out; have p453 : 0 ≤ (((rd_T36 l0_1 x47_3).f1) : Int) := oD; have q453 : ((rd_T36 l0_1 x47_3).f1) < (l0_0.length : Int) := oD; obtain ⟨ad453, e453, hx453_0⟩ := Kd.at_int HR0_0.out ((rd_T36 l0_1 x47_3).f1) p453 q453; cases e453; replace hx453_0 := (HB.out.cell (World.block_lt_of_cell? w _ hx453_0)).trans hx453_0; replace p453 := eq_true p453; replace q453 := eq_true q453))
                  go_meet
                  case rel => exact ⟨_, ((((rd_T36 l0_1 x47_3).f0) == ((rd_T36 l0_1 x47_3).f1))), (by first | rfl | (simp; done) | (simp [*]; done)), H', ⟨by have := HJ1.out; have := HK2.out; have := HK3.out; first | omega | exact Nat.le_refl _⟩, ⟨kU BK447.out⟩, ⟨kU BK450.out⟩, ⟨bU HB.out⟩⟩
                 ·rw [if_neg c30] at H
                  have c30b0 : ((rd l0_0 ((rd_T36 l0_1 x47_3).f1)) == 2) = false := beq_eq_false_iff_ne.mpr c30
                  have c30b1 : ((rd l0_0 ((rd_T36 l0_1 x47_3).f1)) != 2) = true := bne_iff_ne.mpr c30
                  have H' := Aside0.mk H
                  clear H
                  have hnb40 := NB447_450.out
                  have hnc40 := NB450_447.out
                  obtain ⟨hcz41_0, hcz41_1, hcz41_2, hfz41_0, hfz41_1, hfz41_2⟩ := cz3 BK447.out
                  obtain ⟨hcz42_0, hcz42_1, hcz42_2, hcz42_3, hcz42_4, hfz42_0, hfz42_1, hfz42_2, hfz42_3, hfz42_4⟩ := cz5 BK450.out
                  go_wp2_with (first | ((with_reducible refine gate_callee (f := 21) rfl ?_); refine goesLq (some 55) rfl rfl Tryd.func21 #[.agg #[.slice A0_0 l0_0.length c0_0, .slice (some ad449) l0_1.length c0_1, .slice A0_2 l0_2.length c0_2], .int .i64 ((rd_T36 l0_1 x47_3).f0)] rfl ?_; (with_reducible refine (party_is.calls _ _ l0_0 _ _ l0_1 _ _ l0_2 ((rd_T36 l0_1 x47_3).f0) true _ ?side1 ?side2 ?side3 ?side4 ?side5 ?side6 A24.out).mono ?_); (case side1 => exact Kd.C_below HR0_0.out (bU HB.out)); (case side2 => exact HC0_0.out); (case side3 => exact Kd.C_below HR0_1.out (bU HB.out)); (case side4 => exact HC0_1.out); (case side5 => exact Kd.C_below HR0_2.out (bU HB.out)); (case side6 => exact HC0_2.out); rintro e w43 ⟨rfl, hb⟩; refine ⟨_, rfl, ?_⟩; have n0_ := aM (blk_below (g := gb447) (o := .cells #[.slice A0_0 l0_0.length c0_0, .slice (some ad449) l0_1.length c0_1, .slice A0_2 l0_2.length c0_2] 26 (0, 0)) (kP BK447.out) hb); have n1_ := aM (blk_below (g := gb450) (o := .cells #[.int .i64 ((rd_T36 l0_1 x47_3).f0), .int .i64 ((rd_T36 l0_1 x47_3).f1), .bool ((rd_T36 l0_1 x47_3).f2.f0), .string ((rd_T36 l0_1 x47_3).f2.f1), .string ((rd_T36 l0_1 x47_3).f2.f2)] 36 (0, 0)) (kP BK450.out) hb); have n2_ := aM (below_step (bU HB.out) hb); clear BK447; clear BK450; clear HB; have BK447 := n0_; have BK450 := n1_; have HB := n2_; clear n0_ n1_ n2_; (try clear hb); (try clear hb2); (try clear hk); (try clear hi); obtain ⟨hcz44_0, hcz44_1, hcz44_2, hfz44_0, hfz44_1, hfz44_2⟩ := cz3 BK447.out; obtain ⟨hcz45_0, hcz45_1, hcz45_2, hcz45_3, hcz45_4, hfz45_0, hfz45_1, hfz45_2, hfz45_3, hfz45_4⟩ := cz5 BK450.out) | (go_at_call 21; (with_reducible refine (party_is.calls _ _ l0_0 _ _ l0_1 _ _ l0_2 ((rd_T36 l0_1 x47_3).f1) true _ ?side1 ?side2 ?side3 ?side4 ?side5 ?side6 A26.out).mono ?_); (case side1 => exact Kd.C_up (Kd.C_below HR0_0.out HB.out)); (case side2 => exact HC0_0.out); (case side3 => exact Kd.C_up (Kd.C_below HR0_1.out HB.out)); (case side4 => exact HC0_1.out); (case side5 => exact Kd.C_up (Kd.C_below HR0_2.out HB.out)); (case side6 => exact HC0_2.out); rintro e w46 ⟨rfl, hb⟩; have n0_ := aM (blk_below (kU BK447.out) hb); have n1_ := aM (blk_below (kU BK450.out) hb); have n2_ := aM (below_step (bU HB.out) hb); clear BK447; clear BK450; clear HB; have BK447 := n0_; have BK450 := n1_; have HB := n2_; clear n0_ n1_ n2_; (try clear hb); (try clear hb2); (try clear hk); (try clear hi); obtain ⟨hcz47_0, hcz47_1, hcz47_2, hfz47_0, hfz47_1, hfz47_2⟩ := cz3 BK447.out; obtain ⟨hcz48_0, hcz48_1, hcz48_2, hcz48_3, hcz48_4, hfz48_0, hfz48_1, hfz48_2, hfz48_3, hfz48_4⟩ := cz5 BK450.out; have p453 : 0 ≤ (((rd_T36 l0_1 x47_3).f1) : Int) := oD; have q453 : ((rd_T36 l0_1 x47_3).f1) < (l0_0.length : Int) := oD; obtain ⟨ad453, e453, hx453_0⟩ := Kd.at_int HR0_0.out ((rd_T36 l0_1 x47_3).f1) p453 q453; cases e453; replace hx453_0 := (HB.out.cell (World.block_lt_of_cell? w _ hx453_0)).trans hx453_0; replace p453 := eq_true p453; replace q453 := eq_true q453))
                  go_meet
                  case rel => exact ⟨_, (true), (by first | rfl | (simp; done) | (simp [*]; done)), H', ⟨by have := HJ1.out; have := HK2.out; have := HK3.out; first | omega | exact Nat.le_refl _⟩, ⟨kU BK447.out⟩, ⟨kU BK450.out⟩, ⟨bU HB.out⟩⟩
                ·rw [if_neg c29] at H
                 exact absurd H (by simp)
               ·rw [if_neg c28] at H
                exact absurd H (by simp)
              ·replace c27 := Bool.eq_false_iff.mpr c27
               subst c27
               have H1 : (party_Check.j3 k3 l0_1 (l0_1.length : Int) x47_3 true l0_0 l0_1 l0_2 ((rd_T36 l0_1 x47_3).f0) ((rd_T36 l0_1 x47_3).f1) ((rd_T36 l0_1 x47_3).f2.f0) ((rd_T36 l0_1 x47_3).f2.f1) ((rd_T36 l0_1 x47_3).f2.f2)) = some r := by rw [if_neg (show ¬ (false = true) by decide)] at H; exact H
               clear H
               have H := H1
               clear H1
               have H' := Aside0.mk H
               clear H
               have hnb49 := NB447_450.out
               have hnc49 := NB450_447.out
               obtain ⟨hcz50_0, hcz50_1, hcz50_2, hfz50_0, hfz50_1, hfz50_2⟩ := cz3 BK447.out
               obtain ⟨hcz51_0, hcz51_1, hcz51_2, hcz51_3, hcz51_4, hfz51_0, hfz51_1, hfz51_2, hfz51_3, hfz51_4⟩ := cz5 BK450.out
               go_wp2_with (first | ((with_reducible refine gate_callee (f := 21) rfl ?_); refine goesLq (some 55) rfl rfl Tryd.func21 #[.agg #[.slice A0_0 l0_0.length c0_0, .slice (some ad449) l0_1.length c0_1, .slice A0_2 l0_2.length c0_2], .int .i64 ((rd_T36 l0_1 x47_3).f0)] rfl ?_; (with_reducible refine (party_is.calls _ _ l0_0 _ _ l0_1 _ _ l0_2 ((rd_T36 l0_1 x47_3).f0) true _ ?side1 ?side2 ?side3 ?side4 ?side5 ?side6 A24.out).mono ?_); (case side1 => exact Kd.C_below HR0_0.out (bU HB.out)); (case side2 => exact HC0_0.out); (case side3 => exact Kd.C_below HR0_1.out (bU HB.out)); (case side4 => exact HC0_1.out); (case side5 => exact Kd.C_below HR0_2.out (bU HB.out)); (case side6 => exact HC0_2.out); rintro e w52 ⟨rfl, hb⟩; refine ⟨_, rfl, ?_⟩; have n0_ := aM (blk_below (g := gb447) (o := .cells #[.slice A0_0 l0_0.length c0_0, .slice (some ad449) l0_1.length c0_1, .slice A0_2 l0_2.length c0_2] 26 (0, 0)) (kP BK447.out) hb); have n1_ := aM (blk_below (g := gb450) (o := .cells #[.int .i64 ((rd_T36 l0_1 x47_3).f0), .int .i64 ((rd_T36 l0_1 x47_3).f1), .bool ((rd_T36 l0_1 x47_3).f2.f0), .string ((rd_T36 l0_1 x47_3).f2.f1), .string ((rd_T36 l0_1 x47_3).f2.f2)] 36 (0, 0)) (kP BK450.out) hb); have n2_ := aM (below_step (bU HB.out) hb); clear BK447; clear BK450; clear HB; have BK447 := n0_; have BK450 := n1_; have HB := n2_; clear n0_ n1_ n2_; (try clear hb); (try clear hb2); (try clear hk); (try clear hi); obtain ⟨hcz53_0, hcz53_1, hcz53_2, hfz53_0, hfz53_1, hfz53_2⟩ := cz3 BK447.out; obtain ⟨hcz54_0, hcz54_1, hcz54_2, hcz54_3, hcz54_4, hfz54_0, hfz54_1, hfz54_2, hfz54_3, hfz54_4⟩ := cz5 BK450.out) | (go_at_call 21; (with_reducible refine (party_is.calls _ _ l0_0 _ _ l0_1 _ _ l0_2 ((rd_T36 l0_1 x47_3).f1) false _ ?side1 ?side2 ?side3 ?side4 ?side5 ?side6 A26.out).mono ?_); (case side1 => exact Kd.C_up (Kd.C_below HR0_0.out HB.out)); (case side2 => exact HC0_0.out); (case side3 => exact Kd.C_up (Kd.C_below HR0_1.out HB.out)); (case side4 => exact HC0_1.out); (case side5 => exact Kd.C_up (Kd.C_below HR0_2.out HB.out)); (case side6 => exact HC0_2.out); rintro e w55 ⟨rfl, hb⟩; have n0_ := aM (blk_below (kU BK447.out) hb); have n1_ := aM (blk_below (kU BK450.out) hb); have n2_ := aM (below_step (bU HB.out) hb); clear BK447; clear BK450; clear HB; have BK447 := n0_; have BK450 := n1_; have HB := n2_; clear n0_ n1_ n2_; (try clear hb); (try clear hb2); (try clear hk); (try clear hi)))
               go_meet
               case rel => exact ⟨_, (true), (by first | rfl | (simp; done) | (simp [*]; done)), H', ⟨by have := HJ1.out; have := HK2.out; have := HK3.out; first | omega | exact Nat.le_refl _⟩, ⟨kU BK447.out⟩, ⟨kU BK450.out⟩, ⟨bU HB.out⟩⟩
             ·replace c25 := Bool.eq_false_iff.mpr c25
              subst c25
              have H1 : (party_Check.j3 k3 l0_1 (l0_1.length : Int) x47_3 true l0_0 l0_1 l0_2 ((rd_T36 l0_1 x47_3).f0) ((rd_T36 l0_1 x47_3).f1) ((rd_T36 l0_1 x47_3).f2.f0) ((rd_T36 l0_1 x47_3).f2.f1) ((rd_T36 l0_1 x47_3).f2.f2)) = some r := by rw [if_neg (show ¬ (false = true) by decide)] at H; exact H
              clear H
              have H := H1
              clear H1
              have H' := Aside0.mk H
              clear H
              have hnb56 := NB447_450.out
              have hnc56 := NB450_447.out
              obtain ⟨hcz57_0, hcz57_1, hcz57_2, hfz57_0, hfz57_1, hfz57_2⟩ := cz3 BK447.out
              obtain ⟨hcz58_0, hcz58_1, hcz58_2, hcz58_3, hcz58_4, hfz58_0, hfz58_1, hfz58_2, hfz58_3, hfz58_4⟩ := cz5 BK450.out
              go_wp2_with (first | ((with_reducible refine gate_callee (f := 21) rfl ?_); refine goesLq (some 55) rfl rfl Tryd.func21 #[.agg #[.slice A0_0 l0_0.length c0_0, .slice (some ad449) l0_1.length c0_1, .slice A0_2 l0_2.length c0_2], .int .i64 ((rd_T36 l0_1 x47_3).f0)] rfl ?_; (with_reducible refine (party_is.calls _ _ l0_0 _ _ l0_1 _ _ l0_2 ((rd_T36 l0_1 x47_3).f0) false _ ?side1 ?side2 ?side3 ?side4 ?side5 ?side6 A24.out).mono ?_); (case side1 => exact Kd.C_below HR0_0.out (bU HB.out)); (case side2 => exact HC0_0.out); (case side3 => exact Kd.C_below HR0_1.out (bU HB.out)); (case side4 => exact HC0_1.out); (case side5 => exact Kd.C_below HR0_2.out (bU HB.out)); (case side6 => exact HC0_2.out); rintro e w59 ⟨rfl, hb⟩; refine ⟨_, rfl, ?_⟩; have n0_ := aM (blk_below (g := gb447) (o := .cells #[.slice A0_0 l0_0.length c0_0, .slice (some ad449) l0_1.length c0_1, .slice A0_2 l0_2.length c0_2] 26 (0, 0)) (kP BK447.out) hb); have n1_ := aM (blk_below (g := gb450) (o := .cells #[.int .i64 ((rd_T36 l0_1 x47_3).f0), .int .i64 ((rd_T36 l0_1 x47_3).f1), .bool ((rd_T36 l0_1 x47_3).f2.f0), .string ((rd_T36 l0_1 x47_3).f2.f1), .string ((rd_T36 l0_1 x47_3).f2.f2)] 36 (0, 0)) (kP BK450.out) hb); have n2_ := aM (below_step (bU HB.out) hb); clear BK447; clear BK450; clear HB; have BK447 := n0_; have BK450 := n1_; have HB := n2_; clear n0_ n1_ n2_; (try clear hb); (try clear hb2); (try clear hk); (try clear hi)))
              go_meet
              case rel => exact ⟨_, (true), (by first | rfl | (simp; done) | (simp [*]; done)), H', ⟨by have := HJ1.out; have := HK2.out; have := HK3.out; first | omega | exact Nat.le_refl _⟩, ⟨kU BK447.out⟩, ⟨kU BK450.out⟩, ⟨bU HB.out⟩⟩
            case rest =>
             clear HC20
             (try clear c1); (try clear c2); (try clear p2); (try clear c3); (try clear c4); (try clear c4b0); (try clear c4b1); (try clear p4); (try clear q4); (try clear hx4); (try clear c5); (try clear c6); (try clear c6b0); (try clear c6b1); (try clear p6); (try clear c9); (try clear c11); (try clear c11b0); (try clear c12); (try clear c12b0); (try clear c13); (try clear c13b0); (try clear c14); (try clear c14b0); (try clear c14b1); (try clear c15); (try clear c15b0); (try clear c15b1); (try clear c17); (try clear c17b0); (try clear c18); (try clear c18b0); (try clear c19); (try clear c19b0); (try clear c21); (try clear c22); (try clear c25); (try clear c27); (try clear c28); (try clear c28b0); (try clear c28b1); (try clear c29); (try clear c29b0); (try clear c30); (try clear c30b0); (try clear c30b1); (try clear c31); (try clear c40); (try clear p44); (try clear q44); (try clear hx44); (try clear p45); (try clear q45); (try clear hx45); (try clear c49); (try clear c56); (try clear hcz10_0 hcz10_1 hcz10_2); (try clear hcz16_0 hcz16_1 hcz16_2); (try clear hcz23_0 hcz23_1 hcz23_2 hcz23_3 hcz23_4); (try clear hcz32_0 hcz32_1 hcz32_2); (try clear hcz33_0 hcz33_1 hcz33_2 hcz33_3 hcz33_4); (try clear hcz35_0 hcz35_1 hcz35_2); (try clear hcz36_0 hcz36_1 hcz36_2 hcz36_3 hcz36_4); (try clear hcz38_0 hcz38_1 hcz38_2); (try clear hcz39_0 hcz39_1 hcz39_2 hcz39_3 hcz39_4); (try clear hcz41_0 hcz41_1 hcz41_2); (try clear hcz42_0 hcz42_1 hcz42_2 hcz42_3 hcz42_4); (try clear hcz44_0 hcz44_1 hcz44_2); (try clear hcz45_0 hcz45_1 hcz45_2 hcz45_3 hcz45_4); (try clear hcz47_0 hcz47_1 hcz47_2); (try clear hcz48_0 hcz48_1 hcz48_2 hcz48_3 hcz48_4); (try clear hcz50_0 hcz50_1 hcz50_2); (try clear hcz51_0 hcz51_1 hcz51_2 hcz51_3 hcz51_4); (try clear hcz53_0 hcz53_1 hcz53_2); (try clear hcz54_0 hcz54_1 hcz54_2 hcz54_3 hcz54_4); (try clear hcz57_0 hcz57_1 hcz57_2); (try clear hcz58_0 hcz58_1 hcz58_2 hcz58_3 hcz58_4); (try clear hcz5_0 hcz5_1 hcz5_2); (try clear hcz7_0 hcz7_1 hcz7_2); (try clear hcz8_0 hcz8_1 hcz8_2); (try clear hfz10_0 hfz10_1 hfz10_2); (try clear hfz16_0 hfz16_1 hfz16_2); (try clear hfz23_0 hfz23_1 hfz23_2 hfz23_3 hfz23_4); (try clear hfz32_0 hfz32_1 hfz32_2); (try clear hfz33_0 hfz33_1 hfz33_2 hfz33_3 hfz33_4); (try clear hfz35_0 hfz35_1 hfz35_2); (try clear hfz36_0 hfz36_1 hfz36_2 hfz36_3 hfz36_4); (try clear hfz38_0 hfz38_1 hfz38_2); (try clear hfz39_0 hfz39_1 hfz39_2 hfz39_3 hfz39_4); (try clear hfz41_0 hfz41_1 hfz41_2); (try clear hfz42_0 hfz42_1 hfz42_2 hfz42_3 hfz42_4); (try clear hfz44_0 hfz44_1 hfz44_2); (try clear hfz45_0 hfz45_1 hfz45_2 hfz45_3 hfz45_4); (try clear hfz47_0 hfz47_1 hfz47_2); (try clear hfz48_0 hfz48_1 hfz48_2 hfz48_3 hfz48_4); (try clear hfz50_0 hfz50_1 hfz50_2); (try clear hfz51_0 hfz51_1 hfz51_2 hfz51_3 hfz51_4); (try clear hfz53_0 hfz53_1 hfz53_2); (try clear hfz54_0 hfz54_1 hfz54_2 hfz54_3 hfz54_4); (try clear hfz57_0 hfz57_1 hfz57_2); (try clear hfz58_0 hfz58_1 hfz58_2 hfz58_3 hfz58_4); (try clear hfz5_0 hfz5_1 hfz5_2); (try clear hfz7_0 hfz7_1 hfz7_2); (try clear hfz8_0 hfz8_1 hfz8_2); (try clear hx448_0); (try clear hx449_0); (try clear hx449_1); (try clear hx449_2); (try clear hx449_3); (try clear hx449_4); (try clear hx453_0); (try clear p2); (try clear p4); (try clear p448); (try clear p449); (try clear p453); (try clear p6); (try clear q4); (try clear q448); (try clear q449); (try clear q453)
             obtain ⟨kq, x51_19, rfl, HA, HJ19, BK447, BK450, HB⟩ := hcut
             cases kq with
             | zero => exact absurd HA.out (by simp [party_Check.j3])
             | succ kj19 =>
              have H := HA.out
              clear HA
              simp only [party_Check.j3] at H
              by_cases c60 : x51_19 = true
              ·subst c60
               have H1 : (some 14) = some r := by rw [if_pos rfl] at H; exact H
               clear H
               have H := H1
               clear H1
               obtain rfl := Option.some.inj H
               go_wp2
               go_ret
               exact ⟨by first | rfl | (simp [errW_none, errW_some] <;> rfl) | (simp [*, errW_none, errW_some] <;> rfl), bU HB.out⟩
              ·replace c60 := Bool.eq_false_iff.mpr c60
               subst c60
               have H1 : ((rational_Sign.f kj19 ((rd_T36 l0_1 x47_3).f2.f0) ((rd_T36 l0_1 x47_3).f2.f1) ((rd_T36 l0_1 x47_3).f2.f2)).bind fun t454 => (if t454 ≤ 0 then (some 1) else (party_Check.l1 kj19 l0_1 (l0_1.length : Int) (wrap64 (x47_3 + 1)) l0_0 l0_1 l0_2))) = some r := by rw [if_neg (show ¬ (false = true) by decide)] at H; exact H
               clear H
               have H := H1
               clear H1
               replace H := bE H
               obtain ⟨t454, A610, H⟩ := H
               replace H : (if t454 ≤ 0 then (some 1) else (party_Check.l1 kj19 l0_1 (l0_1.length : Int) (wrap64 (x47_3 + 1)) l0_0 l0_1 l0_2)) = some r := H
               have A61 := Aside0.mk A610
               clear A610
               by_cases c62 : t454 ≤ 0
               ·rw [if_pos c62] at H
                have c62b0 := decide_eq_true c62
                clear c62
                obtain rfl := Option.some.inj H
                have hnb63 := NB450_447.out
                have hnc63 := NB447_450.out
                obtain ⟨hcz64_0, hcz64_1, hcz64_2, hcz64_3, hcz64_4, hfz64_0, hfz64_1, hfz64_2, hfz64_3, hfz64_4⟩ := cz5 BK450.out
                go_wp2_with (first | ((with_reducible refine gate_callee (f := 22) rfl ?_); refine goesLq (some 83) rfl rfl Tryd.func22 #[.agg #[.bool ((rd_T36 l0_1 x47_3).f2.f0), .string ((rd_T36 l0_1 x47_3).f2.f1), .string ((rd_T36 l0_1 x47_3).f2.f2)]] rfl ?_; (with_reducible refine (rational_Sign.calls kj19 ((rd_T36 l0_1 x47_3).f2.f0) ((rd_T36 l0_1 x47_3).f2.f1) ((rd_T36 l0_1 x47_3).f2.f2) t454 _ A61.out).mono ?_); rintro e w65 ⟨rfl, hb⟩; refine ⟨_, rfl, ?_⟩; have n0_ := aM (blk_below (kU BK447.out) hb); have n1_ := aM (blk_below (kU BK450.out) hb); have n2_ := aM (below_step (bU HB.out) hb); clear BK447; clear BK450; clear HB; have BK447 := n0_; have BK450 := n1_; have HB := n2_; clear n0_ n1_ n2_; (try clear hb); (try clear hb2); (try clear hk); (try clear hi)))
                go_ret
                exact ⟨by first | rfl | (simp [errW_none, errW_some] <;> rfl) | (simp [*, errW_none, errW_some] <;> rfl), bU HB.out⟩
               ·rw [if_neg c62] at H
                have c62b0 := decide_eq_false c62
                clear c62
                have H' := Aside0.mk H
                clear H
                have hnb66 := NB450_447.out
                have hnc66 := NB447_450.out
                obtain ⟨hcz67_0, hcz67_1, hcz67_2, hcz67_3, hcz67_4, hfz67_0, hfz67_1, hfz67_2, hfz67_3, hfz67_4⟩ := cz5 BK450.out
                go_wp2_with (first | ((with_reducible refine gate_callee (f := 22) rfl ?_); refine goesLq (some 83) rfl rfl Tryd.func22 #[.agg #[.bool ((rd_T36 l0_1 x47_3).f2.f0), .string ((rd_T36 l0_1 x47_3).f2.f1), .string ((rd_T36 l0_1 x47_3).f2.f2)]] rfl ?_; (with_reducible refine (rational_Sign.calls kj19 ((rd_T36 l0_1 x47_3).f2.f0) ((rd_T36 l0_1 x47_3).f2.f1) ((rd_T36 l0_1 x47_3).f2.f2) t454 _ A61.out).mono ?_); rintro e w68 ⟨rfl, hb⟩; refine ⟨_, rfl, ?_⟩; have n0_ := aM (blk_below (kU BK447.out) hb); have n1_ := aM (blk_below (kU BK450.out) hb); have n2_ := aM (below_step (bU HB.out) hb); clear BK447; clear BK450; clear HB; have BK447 := n0_; have BK450 := n1_; have HB := n2_; clear n0_ n1_ n2_; (try clear hb); (try clear hb2); (try clear hk); (try clear hi)))
                go_roundg kj19
                case measure => have := HJ1.out; have := HK2.out; have := HK3.out; have := HJ19.out; omega
                case rel => exact ⟨(wrap64 (x47_3 + 1)), (by first | rfl | (simp; done) | (simp [*]; done)), H', ⟨by have := HJ1.out; have := HK2.out; have := HK3.out; have := HJ19.out; omega⟩, ⟨kU BK447.out⟩, ⟨bU HB.out⟩⟩
           ·rw [if_neg c19] at H
            exact absurd H (by simp)
          ·rw [if_neg c18] at H
           exact absurd H (by simp)
         ·rw [if_neg c17] at H
          have c17b0 := decide_eq_false c17
          clear c17
          by_cases c69 : 0 ≤ (l0_0.length : Int)
          ·rw [if_pos c69] at H
           have c69b0 := eq_true c69
           have c69b1 := decide_eq_true c69
           clear c69
           by_cases c70 : ((l0_0.length : Int) : Int).toNat ≤ 7036874417766
           ·rw [if_pos c70] at H
            have c70b0 := eq_true c70
            have c70b1 := decide_eq_true c70
            clear c70
            obtain ⟨y455, hy455⟩ : ∃ y_ : List (S33), y_ = (List.replicate ((l0_0.length : Int) : Int).toNat z33) := ⟨_, rfl⟩
            replace H : (party_Check.l2 k3 y455 l0_1 (l0_1.length : Int) 0 l0_0 l0_1 l0_2) = some r := by first | (rw [hy455]; with_reducible exact H) | (have H2_ := (Option.bind_some _ _).symm.trans H; rw [hy455]; with_reducible exact H2_) | (have H2_ := (Option.bind_some _ _).symm.trans H; with_reducible exact H2_) | with_reducible exact H | (rw [hy455]; exact H) | exact H
            have Ny455 := Aside0.mk hy455
            clear hy455
            have H' := Aside0.mk H
            clear H
            obtain ⟨hcz71_0, hcz71_1, hcz71_2, hfz71_0, hfz71_1, hfz71_2⟩ := cz3 BK447.out
            go_wp2_with (first | ((with_reducible refine gate_dst (N := 89) rfl ?_); refine Kd.R_make k33 _ 33 rfl (N := 89) rfl 57 _ _ rfl (l0_0.length : Int) rfl rfl Tryd.underlying57 (.agg #[(.bool false), (.string ⟨#[]⟩), (.string ⟨#[]⟩)]) 40 info33 rfl (by decide) (by omega) z33 (ok := fun _ => True) (okp := fun _ => True) (k33_mkM _ _ _ z33 ) (fun _ hk => hk) trivial (oD) (Nat.le_trans (Nat.mul_le_mul_right _ (oD : (l0_0.length : Int).toNat ≤ 7036874417766)) (by omega)) (Below.refl _ _) (Nat.le_refl _) ?_; intro v456 w72 ho73 hb hg_ hnew_; clear hg_ hnew_; (first | rw [← Ny455.out] at ho73 | (simp only [Int.reduceToNat] at ho73; rw [← Ny455.out] at ho73)); have n0_ := aM (Kd.R_lower ho73 (below_size (bU HB.out))); have n1_ := aM (blk_below (kU BK447.out) hb); have n2_ := aM (below_step (bU HB.out) hb); clear BK447; clear HB; have HO457 := n0_; have BK447 := n1_; have HB := n2_; clear n0_ n1_ n2_; clear hb ho73; obtain ⟨hcz74_0, hcz74_1, hcz74_2, hfz74_0, hfz74_1, hfz74_2⟩ := cz3 BK447.out))
            go_loopg [93] k3 (fun kq v93 w' => ∃ (x7_4 : List (S33)) (x93_4 : Int), v93 = .int .i64 x93_4 ∧ Aside0 (party_Check.l2 kq x7_4 l0_1 (l0_1.length : Int) x93_4 l0_0 l0_1 l0_2 = some r) ∧ Aside0 (kq ≤ k3) ∧ Aside0 (Kd.R k33 33 w' w.heap.size (fun _ => True) v456 x7_4) ∧ Aside0 (w'.heap[gb447]? = some (.cells #[(.slice A0_0 l0_0.length c0_0), (.slice A0_1 l0_1.length c0_1), (.slice A0_2 l0_2.length c0_2)] 26 (0, 0))) ∧ Aside0 (Below w.heap.size w w'))
            case atStart => exact ⟨(y455), (0), (by first | rfl | (simp; done) | (simp [*]; done)), H', ⟨Nat.le_refl _⟩, ⟨Kd.R_up HO457.out⟩, ⟨kU BK447.out⟩, ⟨bU HB.out⟩⟩
            case round =>
             clear H'
             (try clear c1); (try clear c2); (try clear p2); (try clear c3); (try clear c4); (try clear c4b0); (try clear c4b1); (try clear p4); (try clear q4); (try clear hx4); (try clear c5); (try clear c6); (try clear c6b0); (try clear c6b1); (try clear p6); (try clear c7); (try clear c9); (try clear c11); (try clear c11b0); (try clear c12); (try clear c12b0); (try clear c13); (try clear c13b0); (try clear c14); (try clear c14b0); (try clear c14b1); (try clear c15); (try clear c15b0); (try clear c15b1); (try clear c17); (try clear c17b0); (try clear c18); (try clear c18b0); (try clear c19); (try clear c19b0); (try clear c21); (try clear c22); (try clear c25); (try clear c27); (try clear c28); (try clear c28b0); (try clear c28b1); (try clear c29); (try clear c29b0); (try clear c30); (try clear c30b0); (try clear c30b1); (try clear c31); (try clear c40); (try clear p44); (try clear q44); (try clear hx44); (try clear p45); (try clear q45); (try clear hx45); (try clear c49); (try clear c56); (try clear c60); (try clear c62); (try clear c62b0); (try clear c63); (try clear p64); (try clear c66); (try clear c69); (try clear c69b0); (try clear c69b1); (try clear c70); (try clear c70b0); (try clear c70b1); (try clear hcz10_0 hcz10_1 hcz10_2); (try clear hcz16_0 hcz16_1 hcz16_2); (try clear hcz23_0 hcz23_1 hcz23_2 hcz23_3 hcz23_4); (try clear hcz32_0 hcz32_1 hcz32_2); (try clear hcz33_0 hcz33_1 hcz33_2 hcz33_3 hcz33_4); (try clear hcz35_0 hcz35_1 hcz35_2); (try clear hcz36_0 hcz36_1 hcz36_2 hcz36_3 hcz36_4); (try clear hcz38_0 hcz38_1 hcz38_2); (try clear hcz39_0 hcz39_1 hcz39_2 hcz39_3 hcz39_4); (try clear hcz41_0 hcz41_1 hcz41_2); (try clear hcz42_0 hcz42_1 hcz42_2 hcz42_3 hcz42_4); (try clear hcz44_0 hcz44_1 hcz44_2); (try clear hcz45_0 hcz45_1 hcz45_2 hcz45_3 hcz45_4); (try clear hcz47_0 hcz47_1 hcz47_2); (try clear hcz48_0 hcz48_1 hcz48_2 hcz48_3 hcz48_4); (try clear hcz50_0 hcz50_1 hcz50_2); (try clear hcz51_0 hcz51_1 hcz51_2 hcz51_3 hcz51_4); (try clear hcz53_0 hcz53_1 hcz53_2); (try clear hcz54_0 hcz54_1 hcz54_2 hcz54_3 hcz54_4); (try clear hcz57_0 hcz57_1 hcz57_2); (try clear hcz58_0 hcz58_1 hcz58_2 hcz58_3 hcz58_4); (try clear hcz5_0 hcz5_1 hcz5_2); (try clear hcz64_0 hcz64_1 hcz64_2 hcz64_3 hcz64_4); (try clear hcz67_0 hcz67_1 hcz67_2 hcz67_3 hcz67_4); (try clear hcz71_0 hcz71_1 hcz71_2); (try clear hcz74_0 hcz74_1 hcz74_2); (try clear hcz7_0 hcz7_1 hcz7_2); (try clear hcz8_0 hcz8_1 hcz8_2); (try clear hfz10_0 hfz10_1 hfz10_2); (try clear hfz16_0 hfz16_1 hfz16_2); (try clear hfz23_0 hfz23_1 hfz23_2 hfz23_3 hfz23_4); (try clear hfz32_0 hfz32_1 hfz32_2); (try clear hfz33_0 hfz33_1 hfz33_2 hfz33_3 hfz33_4); (try clear hfz35_0 hfz35_1 hfz35_2); (try clear hfz36_0 hfz36_1 hfz36_2 hfz36_3 hfz36_4); (try clear hfz38_0 hfz38_1 hfz38_2); (try clear hfz39_0 hfz39_1 hfz39_2 hfz39_3 hfz39_4); (try clear hfz41_0 hfz41_1 hfz41_2); (try clear hfz42_0 hfz42_1 hfz42_2 hfz42_3 hfz42_4); (try clear hfz44_0 hfz44_1 hfz44_2); (try clear hfz45_0 hfz45_1 hfz45_2 hfz45_3 hfz45_4); (try clear hfz47_0 hfz47_1 hfz47_2); (try clear hfz48_0 hfz48_1 hfz48_2 hfz48_3 hfz48_4); (try clear hfz50_0 hfz50_1 hfz50_2); (try clear hfz51_0 hfz51_1 hfz51_2 hfz51_3 hfz51_4); (try clear hfz53_0 hfz53_1 hfz53_2); (try clear hfz54_0 hfz54_1 hfz54_2 hfz54_3 hfz54_4); (try clear hfz57_0 hfz57_1 hfz57_2); (try clear hfz58_0 hfz58_1 hfz58_2 hfz58_3 hfz58_4); (try clear hfz5_0 hfz5_1 hfz5_2); (try clear hfz64_0 hfz64_1 hfz64_2 hfz64_3 hfz64_4); (try clear hfz67_0 hfz67_1 hfz67_2 hfz67_3 hfz67_4); (try clear hfz71_0 hfz71_1 hfz71_2); (try clear hfz74_0 hfz74_1 hfz74_2); (try clear hfz7_0 hfz7_1 hfz7_2); (try clear hfz8_0 hfz8_1 hfz8_2); (try clear hx448_0); (try clear hx449_0); (try clear hx449_1); (try clear hx449_2); (try clear hx449_3); (try clear hx449_4); (try clear hx453_0); (try clear p2); (try clear p4); (try clear p44); (try clear p448); (try clear p449); (try clear p45); (try clear p453); (try clear p6); (try clear q4); (try clear q44); (try clear q448); (try clear q449); (try clear q45); (try clear q453)
             obtain ⟨x7_4, x93_4, rfl, HA, HK4, HO_7, BK447, HB⟩ := hrel
             cases gk with
             | zero => exact absurd HA.out (by simp [party_Check.l2])
             | succ k4 =>
              have H := HA.out
              clear HA
              simp only [party_Check.l2] at H
              by_cases c75 : x93_4 < (l0_1.length : Int)
              ·rw [if_pos c75] at H
               have c75b0 := decide_eq_true c75
               clear c75
               by_cases c76 : 0 ≤ x93_4
               ·rw [if_pos c76] at H
                have c76b0 := decide_eq_true c76
                clear c76
                by_cases c77 : x93_4 < (l0_1.length : Int)
                ·rw [if_pos c77] at H
                 have c77b0 := decide_eq_true c77
                 clear c77
                 by_cases c78 : 0 ≤ ((rd_T36 l0_1 x93_4).f1)
                 ·rw [if_pos c78] at H
                  have c78b0 := decide_eq_true c78
                  clear c78
                  by_cases c79 : ((rd_T36 l0_1 x93_4).f1) < (x7_4.length : Int)
                  ·rw [if_pos c79] at H
                   have c79b0 := decide_eq_true c79
                   clear c79
                   replace H := bE H
                   obtain ⟨⟨t461, t462, t463⟩, A800, H⟩ := H
                   replace H : (party_Check.l2 k4 (x7_4.set (((rd_T36 l0_1 x93_4).f1) : Int).toNat (⟨t461, t462, t463⟩ : S33)) l0_1 (l0_1.length : Int) (wrap64 (x93_4 + 1)) l0_0 l0_1 l0_2) = some r := H
                   have A80 := Aside0.mk A800
                   clear A800
                   obtain ⟨y464, hy464⟩ : ∃ y_ : List (S33), y_ = (x7_4.set (((rd_T36 l0_1 x93_4).f1) : Int).toNat (⟨t461, t462, t463⟩ : S33)) := ⟨_, rfl⟩
                   replace H : (party_Check.l2 k4 y464 l0_1 (l0_1.length : Int) (wrap64 (x93_4 + 1)) l0_0 l0_1 l0_2) = some r := by first | (rw [hy464]; with_reducible exact H) | (have H2_ := (Option.bind_some _ _).symm.trans H; rw [hy464]; with_reducible exact H2_) | (have H2_ := (Option.bind_some _ _).symm.trans H; with_reducible exact H2_) | with_reducible exact H | (rw [hy464]; exact H) | exact H
                   have Ny464 := Aside0.mk hy464
                   clear hy464
                   have H' := Aside0.mk H
                   clear H
                   have p458 : 0 ≤ (x93_4 : Int) := oD
                   have q458 : x93_4 < (l0_1.length : Int) := oD
                   obtain ⟨ad458, e458, hx458_0, hx458_1, hx458_2, hx458_3, hx458_4⟩ := at_T36 HR0_1.out x93_4 p458 q458
                   cases e458
                   replace hx458_0 := (HB.out.cell (World.block_lt_of_cell? w _ hx458_0)).trans hx458_0
                   replace hx458_1 := (HB.out.cell (World.block_lt_of_cell? w _ hx458_1)).trans hx458_1
                   replace hx458_2 := (HB.out.cell (World.block_lt_of_cell? w _ hx458_2)).trans hx458_2
                   replace hx458_3 := (HB.out.cell (World.block_lt_of_cell? w _ hx458_3)).trans hx458_3
                   replace hx458_4 := (HB.out.cell (World.block_lt_of_cell? w _ hx458_4)).trans hx458_4
                   replace p458 := eq_true p458
                   replace q458 := eq_true q458
                   try go_wp2_with (first | ((with_reducible refine gate_dst (N := 9) rfl ?_); refine box_event ?hg (N := 9) ?hd (cs := #[.int .i64 0, .int .i64 0, .bool false, .string (⟨#[]⟩ : ByteArray), .string (⟨#[]⟩ : ByteArray)]) (t := 36) ?hr ?_; (case hd => rfl); (case hg => rfl); (case hr => first | (go_simp; done) | (go_simp; rfl)); intro gb459 hg w82 hbox hb; have n0_ := aM (Kd.R_below (Kd.R_up HO_7.out) hb); have n1_ := aM (blk_below (kU BK447.out) hb); have n2_ := aM (below_step (bU HB.out) hb); have n3_ := aM (hbox); have n4_ := aM ((by rw [hg]; exact (below_size (bU HB.out)) : w.heap.size ≤ gb459)); have n5_ := aM ((by rw [hg]; exact (below_size (bU HB.out)) : w.heap.size ≤ gb459)); have n6_ := aM ((by rw [hg]; exact Nat.ne_of_lt (blk_lt (kU BK447.out)) : gb447 ≠ gb459)); have n7_ := aM ((by rw [hg]; exact Nat.ne_of_gt (blk_lt (kU BK447.out)) : gb459 ≠ gb447)); clear HO_7; clear BK447; clear HB; have HO_7 := n0_; have BK447 := n1_; have HB := n2_; have BK459 := n3_; have GW459 := n4_; have GE459 := n5_; have NB447_459 := n6_; have NB459_447 := n7_; clear n0_ n1_ n2_ n3_ n4_ n5_ n6_ n7_; clear hb hbox hg; have hnb83 := NB459_447.out; have hnc83 := NB447_459.out; obtain ⟨hcz84_0, hcz84_1, hcz84_2, hcz84_3, hcz84_4, hfz84_0, hfz84_1, hfz84_2, hfz84_3, hfz84_4⟩ := cz5 BK459.out))
                   have n0_ : Aside0 (Kd.R k33 33 (((((w82.setCell ⟨gb459, 0, none⟩ (.int .i64 ((rd_T36 l0_1 x93_4).f0))).setCell ⟨gb459, 1, none⟩ (.int .i64 ((rd_T36 l0_1 x93_4).f1))).setCell ⟨gb459, 2, none⟩ (.bool ((rd_T36 l0_1 x93_4).f2.f0))).setCell ⟨gb459, 3, none⟩ (.string ((rd_T36 l0_1 x93_4).f2.f1))).setCell ⟨gb459, 4, none⟩ (.string ((rd_T36 l0_1 x93_4).f2.f2))) w.heap.size (fun _ => True) v456 x7_4) := ⟨Kd.R_up (Kd.R_mono (Kd.R_far (p := ⟨gb459, 4, none⟩) (Kd.R_far (p := ⟨gb459, 3, none⟩) (Kd.R_far (p := ⟨gb459, 2, none⟩) (Kd.R_far (p := ⟨gb459, 1, none⟩) (Kd.R_far (p := ⟨gb459, 0, none⟩) (Kd.R_types HO_7.out BK459.out (by decide)) (fun _ hk => hk.2) (.int .i64 ((rd_T36 l0_1 x93_4).f0))) (fun _ hk => hk.2) (.int .i64 ((rd_T36 l0_1 x93_4).f1))) (fun _ hk => hk.2) (.bool ((rd_T36 l0_1 x93_4).f2.f0))) (fun _ hk => hk.2) (.string ((rd_T36 l0_1 x93_4).f2.f1))) (fun _ hk => hk.2) (.string ((rd_T36 l0_1 x93_4).f2.f2))) (fun _ hk => trivial))⟩
                   have n1_ : Aside0 ((((((w82.setCell ⟨gb459, 0, none⟩ (.int .i64 ((rd_T36 l0_1 x93_4).f0))).setCell ⟨gb459, 1, none⟩ (.int .i64 ((rd_T36 l0_1 x93_4).f1))).setCell ⟨gb459, 2, none⟩ (.bool ((rd_T36 l0_1 x93_4).f2.f0))).setCell ⟨gb459, 3, none⟩ (.string ((rd_T36 l0_1 x93_4).f2.f1))).setCell ⟨gb459, 4, none⟩ (.string ((rd_T36 l0_1 x93_4).f2.f2))).heap[gb447]? = some (.cells #[.slice A0_0 l0_0.length c0_0, .slice (some ad458) l0_1.length c0_1, .slice A0_2 l0_2.length c0_2] 26 (0, 0))) := ⟨kP BK447.out⟩
                   have n2_ : Aside0 ((((((w82.setCell ⟨gb459, 0, none⟩ (.int .i64 ((rd_T36 l0_1 x93_4).f0))).setCell ⟨gb459, 1, none⟩ (.int .i64 ((rd_T36 l0_1 x93_4).f1))).setCell ⟨gb459, 2, none⟩ (.bool ((rd_T36 l0_1 x93_4).f2.f0))).setCell ⟨gb459, 3, none⟩ (.string ((rd_T36 l0_1 x93_4).f2.f1))).setCell ⟨gb459, 4, none⟩ (.string ((rd_T36 l0_1 x93_4).f2.f2))).heap[gb459]? = some (.cells #[.int .i64 ((rd_T36 l0_1 x93_4).f0), .int .i64 ((rd_T36 l0_1 x93_4).f1), .bool ((rd_T36 l0_1 x93_4).f2.f0), .string ((rd_T36 l0_1 x93_4).f2.f1), .string ((rd_T36 l0_1 x93_4).f2.f2)] 36 (0, 0))) := ⟨kP BK459.out⟩
                   have n3_ : Aside0 (Below w.heap.size w (((((w82.setCell ⟨gb459, 0, none⟩ (.int .i64 ((rd_T36 l0_1 x93_4).f0))).setCell ⟨gb459, 1, none⟩ (.int .i64 ((rd_T36 l0_1 x93_4).f1))).setCell ⟨gb459, 2, none⟩ (.bool ((rd_T36 l0_1 x93_4).f2.f0))).setCell ⟨gb459, 3, none⟩ (.string ((rd_T36 l0_1 x93_4).f2.f1))).setCell ⟨gb459, 4, none⟩ (.string ((rd_T36 l0_1 x93_4).f2.f2)))) := ⟨bU HB.out⟩
                   (try clear HO_7)
                   (try clear BK447)
                   (try clear BK459)
                   (try clear HB)
                   generalize (((((w82.setCell ⟨gb459, 0, none⟩ (.int .i64 ((rd_T36 l0_1 x93_4).f0))).setCell ⟨gb459, 1, none⟩ (.int .i64 ((rd_T36 l0_1 x93_4).f1))).setCell ⟨gb459, 2, none⟩ (.bool ((rd_T36 l0_1 x93_4).f2.f0))).setCell ⟨gb459, 3, none⟩ (.string ((rd_T36 l0_1 x93_4).f2.f1))).setCell ⟨gb459, 4, none⟩ (.string ((rd_T36 l0_1 x93_4).f2.f2))) = w85 at n0_ n1_ n2_ n3_ ⊢
                   have HO_7 := n0_
                   have BK447 := n1_
                   have BK459 := n2_
                   have HB := n3_
                   clear n0_ n1_ n2_ n3_
                   have n0_ := aM (Kd.R_drew HO_7.out)
                   have n1_ := aM (blk_drew BK447.out)
                   have n2_ := aM (blk_drew BK459.out)
                   have n3_ := aM (below_drew1 HB.out)
                   clear HO_7
                   clear BK447
                   clear BK459
                   clear HB
                   have HO_7 := n0_
                   have BK447 := n1_
                   have BK459 := n2_
                   have HB := n3_
                   clear n0_ n1_ n2_ n3_
                   obtain ⟨Ao87, co87, eo87⟩ := Kd.R_slice HO_7.out
                   (first | subst eo87 | (injection eo87 with f1_ f2_ f3_; have f4_ := f1_.symm; have f5_ := f3_.symm; clear f1_ f2_ f3_; subst f4_; subst f5_))
                   have p460 : 0 ≤ (((rd_T36 l0_1 x93_4).f1) : Int) := oD
                   have q460 : ((rd_T36 l0_1 x93_4).f1) < (x7_4.length : Int) := oD
                   obtain ⟨ad460, e460, hx460_0, hx460_1, hx460_2⟩ := at_T33 (Kd.R_reads' HO_7.out).2.2 ((rd_T36 l0_1 x93_4).f1) p460 q460
                   cases e460
                   replace p460 := eq_true p460
                   replace q460 := eq_true q460
                   refine start_ (n := 13) (S := fun w' => w'.cell? ⟨gb459, 0, none⟩ = some (.int .i64 ((rd_T36 l0_1 x93_4).f0)) ∧ w'.cell? ⟨gb459, 1, none⟩ = some (.int .i64 ((rd_T36 l0_1 x93_4).f1)) ∧ w'.cell? ⟨gb459, 2, none⟩ = some (.bool ((rd_T36 l0_1 x93_4).f2.f0)) ∧ w'.cell? ⟨gb459, 3, none⟩ = some (.string ((rd_T36 l0_1 x93_4).f2.f1)) ∧ w'.cell? ⟨gb459, 4, none⟩ = some (.string ((rd_T36 l0_1 x93_4).f2.f2)) ∧ w'.cell? (ad460.add ((((rd_T36 l0_1 x93_4).f1)).toNat * 3)) = some (.bool ((rd_T33 x7_4 ((rd_T36 l0_1 x93_4).f1)).f0)) ∧ w'.cell? ⟨(ad460.add ((((rd_T36 l0_1 x93_4).f1)).toNat * 3)).block, (ad460.add ((((rd_T36 l0_1 x93_4).f1)).toNat * 3)).off + 1, none⟩ = some (.string ((rd_T33 x7_4 ((rd_T36 l0_1 x93_4).f1)).f1)) ∧ w'.cell? ⟨(ad460.add ((((rd_T36 l0_1 x93_4).f1)).toNat * 3)).block, (ad460.add ((((rd_T36 l0_1 x93_4).f1)).toNat * 3)).off + 2, none⟩ = some (.string ((rd_T33 x7_4 ((rd_T36 l0_1 x93_4).f1)).f2))) (ds := [12]) #[false, false, false, false, false, false, false, false, false, false, false, false, false] (by kernel_rfl) rfl rfl ⟨(blk_cell BK459.out 0).trans rfl, (blk_cell BK459.out 1).trans rfl, (blk_cell BK459.out 2).trans rfl, (blk_cell BK459.out 3).trans rfl, (blk_cell BK459.out 4).trans rfl, hx460_0, hx460_1, hx460_2⟩ (fun hHeld => ?_); refine with_tabW party_Check.tab21 party_Check.bits21 (fun HT_ HW_ => ?_)
                   generalize w85.drew = w86 at HO_7 BK447 BK459 HB hx460_0 hx460_1 hx460_2 hHeld ⊢
                   refine pureq (i := 0) (N := some 97) HT_.out rfl rfl ?_
                   refine pureq (i := 1) (N := some 98) HT_.out rfl rfl ?_
                   refine pureq (i := 3) (N := some 100) HT_.out rfl rfl ?_
                   refine pureq (i := 4) (N := some 101) HT_.out rfl rfl ?_
                   refine pureq (i := 8) (N := some 105) HT_.out rfl rfl ?_
                   refine takeq (i := 2) (N := some 99) HT_.out HW_.out hHeld rfl rfl ?_
                   refine takeq (i := 5) (N := some 102) HT_.out HW_.out hHeld rfl rfl ?_
                   refine pureq (i := 6) (N := some 103) HT_.out rfl rfl ?_
                   refine takeq (i := 7) (N := some 104) HT_.out HW_.out hHeld rfl rfl ?_
                   refine takeq (i := 9) (N := some 106) HT_.out HW_.out hHeld rfl rfl ?_
                   refine one_ (i := 10) (N := some 107) #[true, true, true, true, true, true, true, true, true, true, true, false, false] rfl rfl (one_of HT_.out (by kernel_rfl)) (by decide) (fun K hK => ?_)
                   refine goesq Tryd.func23 #[.agg #[.bool ((rd_T33 x7_4 ((rd_T36 l0_1 x93_4).f1)).f0), .string ((rd_T33 x7_4 ((rd_T36 l0_1 x93_4).f1)).f1), .string ((rd_T33 x7_4 ((rd_T36 l0_1 x93_4).f1)).f2)], .agg #[.bool ((rd_T36 l0_1 x93_4).f2.f0), .string ((rd_T36 l0_1 x93_4).f2.f1), .string ((rd_T36 l0_1 x93_4).f2.f2)]] (by rfl) rfl rfl ?_
                   with_reducible refine (rational_Add.calls k4 ((rd_T33 x7_4 ((rd_T36 l0_1 x93_4).f1)).f0) ((rd_T33 x7_4 ((rd_T36 l0_1 x93_4).f1)).f1) ((rd_T33 x7_4 ((rd_T36 l0_1 x93_4).f1)).f2) ((rd_T36 l0_1 x93_4).f2.f0) ((rd_T36 l0_1 x93_4).f2.f1) ((rd_T36 l0_1 x93_4).f2.f2) t461 t462 t463 _ A80.out).mono ?_
                   rintro e w88 ⟨rfl, hb⟩
                   have HS5_ := (hb.cell (World.block_lt_of_cell? _ _ (hHeld.2.2.2.2.2.1))).trans (hHeld.2.2.2.2.2.1)
                   have HS6_ := (hb.cell (World.block_lt_of_cell? _ _ (hHeld.2.2.2.2.2.2.1))).trans (hHeld.2.2.2.2.2.2.1)
                   have HS7_ := (hb.cell (World.block_lt_of_cell? _ _ (hHeld.2.2.2.2.2.2.2))).trans (hHeld.2.2.2.2.2.2.2)
                   refine ⟨_, rfl, ?_⟩
                   have n0_ := aM (Kd.R_below (Kd.R_up HO_7.out) hb)
                   have n1_ := aM (blk_below (kU BK447.out) hb)
                   have n2_ := aM (blk_below (kU BK459.out) hb)
                   have n3_ := aM (below_step (bU HB.out) hb)
                   clear HO_7
                   clear BK447
                   clear BK459
                   clear HB
                   have HO_7 := n0_
                   have BK447 := n1_
                   have BK459 := n2_
                   have HB := n3_
                   clear n0_ n1_ n2_ n3_
                   (try clear hb)
                   (try clear hb2)
                   (try clear hk)
                   (try clear hi)
                   have p81 : 0 ≤ (((rd_T36 l0_1 x93_4).f1) : Int) := oD
                   have q81 : (((rd_T36 l0_1 x93_4).f1) : Int) < ((x7_4.length : Int) : Int) := oD
                   obtain ⟨go81, co81, eo81, gb81, gl81, cl81, HG81⟩ := Kd.R_form HO_7.out (by omega)
                   (first | cases eo81 | (injection eo81 with ea_ en_ ec_; (first | subst ea_ | (injection ea_ with ea_; subst ea_)); subst ec_; clear en_))
                   have GB81 := Aside0.mk gb81
                   have GG81 := Aside0.mk HG81
                   clear gb81 gl81 HG81
                   (first | simp only [add_plain] at hx460_0 | skip)
                   (first | simp only [add_plain] at hx460_1 | skip)
                   (first | simp only [add_plain] at hx460_2 | skip)
                   obtain ⟨ce81, hcl81, hM81, hcc81, hfr81⟩ := Kd.R_elem HO_7.out z33 (((rd_T36 l0_1 x93_4).f1) : Int) p81 q81
                   obtain rfl := k33_openM hM81
                   have hx81_0 : World.cell? _ ⟨go81, (((rd_T36 l0_1 x93_4).f1) : Int).toNat * 3, none⟩ = some (.bool ((rd_T33 x7_4 ((rd_T36 l0_1 x93_4).f1)).f0)) := hcc81 0 _ rfl
                   have hx81_1 : World.cell? _ ⟨go81, (((rd_T36 l0_1 x93_4).f1) : Int).toNat * 3 + 1, none⟩ = some (.string ((rd_T33 x7_4 ((rd_T36 l0_1 x93_4).f1)).f1)) := hcc81 1 _ rfl
                   have hx81_2 : World.cell? _ ⟨go81, (((rd_T36 l0_1 x93_4).f1) : Int).toNat * 3 + 2, none⟩ = some (.string ((rd_T33 x7_4 ((rd_T36 l0_1 x93_4).f1)).f2)) := hcc81 2 _ rfl
                   have hf81_0 : World.frozen? _ ⟨go81, (((rd_T36 l0_1 x93_4).f1) : Int).toNat * 3, none⟩ = false := hfr81 0
                   have hf81_1 : World.frozen? _ ⟨go81, (((rd_T36 l0_1 x93_4).f1) : Int).toNat * 3 + 1, none⟩ = false := hfr81 1
                   have hf81_2 : World.frozen? _ ⟨go81, (((rd_T36 l0_1 x93_4).f1) : Int).toNat * 3 + 2, none⟩ = false := hfr81 2
                   clear hcl81 hcc81 hfr81 hM81
                   replace p81 := eq_true p81
                   replace q81 := eq_true q81
                   obtain ⟨ce89, hcl89, hM89, hcc89, hfr89⟩ := Kd.R_elem HO_7.out z33 (((rd_T36 l0_1 x93_4).f1) : Int) (oD) (by have h_ : (((rd_T36 l0_1 x93_4).f1) : Int) < ((x7_4.length : Int) : Int) := oD; first | exact h_ | (have e_ := (Kd.R_reads' HO_7.out).1; omega) | simpa using h_)
                   obtain rfl := k33_openM hM89
                   have HP89 := (Kd.R_seg HO_7.out (((rd_T36 l0_1 x93_4).f1) : Int) (oD) (by have h_ : (((rd_T36 l0_1 x93_4).f1) : Int) < ((x7_4.length : Int) : Int) := oD; first | exact h_ | (have e_ := (Kd.R_reads' HO_7.out).1; omega) | simpa using h_) (seg := [.bool t461, .string t462, .string t463]) (j := 0) hcl89 hcc89 (show 3 ≤ 3 from by decide) (x' := (⟨t461, t462, t463⟩ : S33)) (k33_mkM _ _ _ (⟨t461, t462, t463⟩ : S33) ) (fun _ hk => hk)).1
                   rw [← Ny464.out] at HP89
                   have HQ89 := Aside0.mk HP89
                   clear hcl89 hcc89 hfr89 hM89 HP89
                   refine hK.out _ _ ⟨(blk_cell BK459.out 0).trans rfl, (blk_cell BK459.out 1).trans rfl, (blk_cell BK459.out 2).trans rfl, (blk_cell BK459.out 3).trans rfl, (blk_cell BK459.out 4).trans rfl, HS5_, HS6_, HS7_⟩ (fun hHeld => ?_)
                   clear hK K
                   refine norm_ (a' := ?_) ?_ ?_
                   rotate_left
                   ·show Act.put _ (some 107) _ = _
                    simp only [Act.put, sTA, sC0, sCS, i64_w, i32_w]
                    rfl
                   refine pureq (i := 11) (N := some 108) HT_.out rfl rfl ?_
                   refine last_ (i := 12) (N := none) #[true, true, true, true, true, true, true, true, true, true, true, true, true] rfl rfl (one_of HT_.out (by kernel_rfl)) (by decide) (fun K hK => ?_)
                   refine skip_ (w1 := ?_) (by rfl) rfl ?_ ?_
                   rotate_left
                   ·go_simp
                    rfl
                   refine hK.out _ _ ?_
                   clear hK K
                   refine done_ (done_of HT_.out (by kernel_rfl)) ?_
                   try go_wp2
                   go_roundg k4
                   case measure => have := HJ1.out; have := HK2.out; have := HK3.out; have := HK4.out; omega
                   case rel => exact ⟨(y464), (wrap64 (x93_4 + 1)), (by first | rfl | (simp; done) | (simp [*]; done)), H', ⟨by have := HJ1.out; have := HK2.out; have := HK3.out; have := HK4.out; omega⟩, ⟨Kd.R_up HQ89.out⟩, ⟨by (with_reducible repeat (first | refine kN ?_ _ | refine kD ?_ | refine kA ?_ _)); refine blk_far ?_ (by have h_ := Kd.R_ne HO_7.out BK447.out (by decide); intro e_; exact h_ (by rw [e_]; rfl)) _; (with_reducible repeat (first | refine kN ?_ _ | refine kD ?_ | refine kA ?_ _)); refine blk_far ?_ (by have h_ := Kd.R_ne HO_7.out BK447.out (by decide); intro e_; exact h_ (by rw [e_]; rfl)) _; (with_reducible repeat (first | refine kN ?_ _ | refine kD ?_ | refine kA ?_ _)); refine blk_far ?_ (by have h_ := Kd.R_ne HO_7.out BK447.out (by decide); intro e_; exact h_ (by rw [e_]; rfl)) _; (with_reducible repeat (first | refine kN ?_ _ | refine kD ?_ | refine kA ?_ _)); exact BK447.out⟩, ⟨bU HB.out⟩⟩
                  ·rw [if_neg c79] at H
                   exact absurd H (by simp)
                 ·rw [if_neg c78] at H
                  exact absurd H (by simp)
                ·rw [if_neg c77] at H
                 exact absurd H (by simp)
               ·rw [if_neg c76] at H
                exact absurd H (by simp)
              ·rw [if_neg c75] at H
               have c75b0 := decide_eq_false c75
               clear c75
               have H' := Aside0.mk H
               clear H
               obtain ⟨Ao90, co90, eo90⟩ := Kd.R_slice HO_7.out
               subst eo90
               go_wp2
               go_loopg [112] k4 (fun kq v112 w' => ∃ (x112_5 : Int), v112 = .int .i64 x112_5 ∧ Aside0 (party_Check.l3 kq x7_4 (x7_4.length : Int) x112_5 l0_0 l0_1 l0_2 = some r) ∧ Aside0 (kq ≤ k4) ∧ Aside0 (Kd.R k33 33 w' w.heap.size (fun _ => True) (.slice Ao90 x7_4.length co90) x7_4) ∧ Aside0 (w'.heap[gb447]? = some (.cells #[(.slice A0_0 l0_0.length c0_0), (.slice A0_1 l0_1.length c0_1), (.slice A0_2 l0_2.length c0_2)] 26 (0, 0))) ∧ Aside0 (Below w.heap.size w w'))
               case atStart => exact ⟨(0), (by first | rfl | (simp; done) | (simp [*]; done)), H', ⟨Nat.le_refl _⟩, ⟨Kd.R_up HO_7.out⟩, ⟨kU BK447.out⟩, ⟨bU HB.out⟩⟩
               case round =>
                clear H'
                (try clear c1); (try clear c2); (try clear p2); (try clear c3); (try clear c4); (try clear c4b0); (try clear c4b1); (try clear p4); (try clear q4); (try clear hx4); (try clear c5); (try clear c6); (try clear c6b0); (try clear c6b1); (try clear p6); (try clear c7); (try clear c8); (try clear p8); (try clear q8); (try clear hx8); (try clear hf8); (try clear c9); (try clear c11); (try clear c11b0); (try clear c12); (try clear c12b0); (try clear c13); (try clear c13b0); (try clear c14); (try clear c14b0); (try clear c14b1); (try clear c15); (try clear c15b0); (try clear c15b1); (try clear c17); (try clear c17b0); (try clear c18); (try clear c18b0); (try clear c19); (try clear c19b0); (try clear c21); (try clear c22); (try clear c23); (try clear c25); (try clear c27); (try clear c28); (try clear c28b0); (try clear c28b1); (try clear c29); (try clear c29b0); (try clear c30); (try clear c30b0); (try clear c30b1); (try clear c31); (try clear c40); (try clear p44); (try clear q44); (try clear hx44); (try clear p45); (try clear q45); (try clear hx45); (try clear p46); (try clear q46); (try clear hx46); (try clear c49); (try clear c56); (try clear c60); (try clear c62); (try clear c62b0); (try clear c63); (try clear p64); (try clear c66); (try clear c69); (try clear c69b0); (try clear c69b1); (try clear c70); (try clear c70b0); (try clear c70b1); (try clear c75); (try clear c75b0); (try clear c76); (try clear c76b0); (try clear c77); (try clear c77b0); (try clear c78); (try clear c78b0); (try clear c79); (try clear c79b0); (try clear c81); (try clear p81); (try clear q81); (try clear hx81); (try clear hf81); (try clear c83); (try clear c89); (try clear hcz10_0 hcz10_1 hcz10_2); (try clear hcz16_0 hcz16_1 hcz16_2); (try clear hcz23_0 hcz23_1 hcz23_2 hcz23_3 hcz23_4); (try clear hcz32_0 hcz32_1 hcz32_2); (try clear hcz33_0 hcz33_1 hcz33_2 hcz33_3 hcz33_4); (try clear hcz35_0 hcz35_1 hcz35_2); (try clear hcz36_0 hcz36_1 hcz36_2 hcz36_3 hcz36_4); (try clear hcz38_0 hcz38_1 hcz38_2); (try clear hcz39_0 hcz39_1 hcz39_2 hcz39_3 hcz39_4); (try clear hcz41_0 hcz41_1 hcz41_2); (try clear hcz42_0 hcz42_1 hcz42_2 hcz42_3 hcz42_4); (try clear hcz44_0 hcz44_1 hcz44_2); (try clear hcz45_0 hcz45_1 hcz45_2 hcz45_3 hcz45_4); (try clear hcz47_0 hcz47_1 hcz47_2); (try clear hcz48_0 hcz48_1 hcz48_2 hcz48_3 hcz48_4); (try clear hcz50_0 hcz50_1 hcz50_2); (try clear hcz51_0 hcz51_1 hcz51_2 hcz51_3 hcz51_4); (try clear hcz53_0 hcz53_1 hcz53_2); (try clear hcz54_0 hcz54_1 hcz54_2 hcz54_3 hcz54_4); (try clear hcz57_0 hcz57_1 hcz57_2); (try clear hcz58_0 hcz58_1 hcz58_2 hcz58_3 hcz58_4); (try clear hcz5_0 hcz5_1 hcz5_2); (try clear hcz64_0 hcz64_1 hcz64_2 hcz64_3 hcz64_4); (try clear hcz67_0 hcz67_1 hcz67_2 hcz67_3 hcz67_4); (try clear hcz71_0 hcz71_1 hcz71_2); (try clear hcz74_0 hcz74_1 hcz74_2); (try clear hcz7_0 hcz7_1 hcz7_2); (try clear hcz84_0 hcz84_1 hcz84_2 hcz84_3 hcz84_4); (try clear hcz8_0 hcz8_1 hcz8_2); (try clear hfz10_0 hfz10_1 hfz10_2); (try clear hfz16_0 hfz16_1 hfz16_2); (try clear hfz23_0 hfz23_1 hfz23_2 hfz23_3 hfz23_4); (try clear hfz32_0 hfz32_1 hfz32_2); (try clear hfz33_0 hfz33_1 hfz33_2 hfz33_3 hfz33_4); (try clear hfz35_0 hfz35_1 hfz35_2); (try clear hfz36_0 hfz36_1 hfz36_2 hfz36_3 hfz36_4); (try clear hfz38_0 hfz38_1 hfz38_2); (try clear hfz39_0 hfz39_1 hfz39_2 hfz39_3 hfz39_4); (try clear hfz41_0 hfz41_1 hfz41_2); (try clear hfz42_0 hfz42_1 hfz42_2 hfz42_3 hfz42_4); (try clear hfz44_0 hfz44_1 hfz44_2); (try clear hfz45_0 hfz45_1 hfz45_2 hfz45_3 hfz45_4); (try clear hfz47_0 hfz47_1 hfz47_2); (try clear hfz48_0 hfz48_1 hfz48_2 hfz48_3 hfz48_4); (try clear hfz50_0 hfz50_1 hfz50_2); (try clear hfz51_0 hfz51_1 hfz51_2 hfz51_3 hfz51_4); (try clear hfz53_0 hfz53_1 hfz53_2); (try clear hfz54_0 hfz54_1 hfz54_2 hfz54_3 hfz54_4); (try clear hfz57_0 hfz57_1 hfz57_2); (try clear hfz58_0 hfz58_1 hfz58_2 hfz58_3 hfz58_4); (try clear hfz5_0 hfz5_1 hfz5_2); (try clear hfz64_0 hfz64_1 hfz64_2 hfz64_3 hfz64_4); (try clear hfz67_0 hfz67_1 hfz67_2 hfz67_3 hfz67_4); (try clear hfz71_0 hfz71_1 hfz71_2); (try clear hfz74_0 hfz74_1 hfz74_2); (try clear hfz7_0 hfz7_1 hfz7_2); (try clear hfz84_0 hfz84_1 hfz84_2 hfz84_3 hfz84_4); (try clear hfz8_0 hfz8_1 hfz8_2); (try clear hx448_0); (try clear hx449_0); (try clear hx449_1); (try clear hx449_2); (try clear hx449_3); (try clear hx449_4); (try clear hx453_0); (try clear hx458_0); (try clear hx458_1); (try clear hx458_2); (try clear hx458_3); (try clear hx458_4); (try clear hx460_0); (try clear hx460_1); (try clear hx460_2); (try clear hx81_0); (try clear hx81_1); (try clear hx81_2); (try clear p2); (try clear p4); (try clear p44); (try clear p448); (try clear p449); (try clear p45); (try clear p453); (try clear p458); (try clear p460); (try clear p6); (try clear p64); (try clear p81); (try clear q4); (try clear q44); (try clear q448); (try clear q449); (try clear q45); (try clear q453); (try clear q458); (try clear q460); (try clear q81)
                obtain ⟨x112_5, rfl, HA, HK5, HO_110, BK447, HB⟩ := hrel
                cases gk with
                | zero => exact absurd HA.out (by simp [party_Check.l3])
                | succ k5 =>
                 have H := HA.out
                 clear HA
                 simp only [party_Check.l3] at H
                 by_cases c91 : x112_5 < (x7_4.length : Int)
                 ·rw [if_pos c91] at H
                  have c91b0 := decide_eq_true c91
                  clear c91
                  by_cases c92 : 0 ≤ x112_5
                  ·rw [if_pos c92] at H
                   have c92b0 := decide_eq_true c92
                   clear c92
                   by_cases c93 : x112_5 < (x7_4.length : Int)
                   ·rw [if_pos c93] at H
                    have c93b0 := decide_eq_true c93
                    clear c93
                    replace H := bE H
                    obtain ⟨⟨t467, t468, t469⟩, A940, H⟩ := H
                    replace H : ((rational_Compare.f k5 ((rd_T33 x7_4 x112_5).f0) ((rd_T33 x7_4 x112_5).f1) ((rd_T33 x7_4 x112_5).f2) t467 t468 t469).bind fun t470 => (if t470 > 0 then (some 6) else (party_Check.l3 k5 x7_4 (x7_4.length : Int) (wrap64 (x112_5 + 1)) l0_0 l0_1 l0_2))) = some r := H
                    have A94 := Aside0.mk A940
                    clear A940
                    replace H := bE H
                    obtain ⟨t470, A950, H⟩ := H
                    replace H : (if t470 > 0 then (some 6) else (party_Check.l3 k5 x7_4 (x7_4.length : Int) (wrap64 (x112_5 + 1)) l0_0 l0_1 l0_2)) = some r := H
                    have A95 := Aside0.mk A950
                    clear A950
                    by_cases c96 : t470 > 0
                    ·rw [if_pos c96] at H
                     have c96b0 : decide (0 < t470) = true := decide_eq_true c96
                     clear c96
                     obtain rfl := Option.some.inj H
                     have p465 : 0 ≤ (x112_5 : Int) := oD
                     have q465 : x112_5 < (x7_4.length : Int) := oD
                     obtain ⟨ad465, e465, hx465_0, hx465_1, hx465_2⟩ := at_T33 (Kd.R_reads' HO_110.out).2.2 x112_5 p465 q465
                     cases e465
                     replace p465 := eq_true p465
                     replace q465 := eq_true q465
                     try go_wp2_with (first | ((with_reducible refine gate_dst (N := 11) rfl ?_); refine box_event ?hg (N := 11) ?hd (cs := #[.bool false, .string (⟨#[]⟩ : ByteArray), .string (⟨#[]⟩ : ByteArray)]) (t := 33) ?hr ?_; (case hd => rfl); (case hg => rfl); (case hr => first | (go_simp; done) | (go_simp; rfl)); intro gb466 hg w97 hbox hb; have n0_ := aM (Kd.R_below (Kd.R_elderB (Kd.R_up HO_110.out) gb466 (Nat.le_of_eq hg.symm)) hb); have n1_ := aM (blk_below (kU BK447.out) hb); have n2_ := aM (below_step (bU HB.out) hb); have n3_ := aM (hbox); have n4_ := aM ((by rw [hg]; exact (below_size (bU HB.out)) : w.heap.size ≤ gb466)); have n5_ := aM ((by rw [hg]; exact (below_size (bU HB.out)) : w.heap.size ≤ gb466)); have n6_ := aM ((by rw [hg]; exact Nat.ne_of_lt (blk_lt (kU BK447.out)) : gb447 ≠ gb466)); have n7_ := aM ((by rw [hg]; exact Nat.ne_of_gt (blk_lt (kU BK447.out)) : gb466 ≠ gb447)); clear HO_110; clear BK447; clear HB; have HO_110 := n0_; have BK447 := n1_; have HB := n2_; have BK466 := n3_; have GW466 := n4_; have GE466 := n5_; have NB447_466 := n6_; have NB466_447 := n7_; clear n0_ n1_ n2_ n3_ n4_ n5_ n6_ n7_; clear hb hbox hg; have hnb98 := NB466_447.out; have hnc98 := NB447_466.out; obtain ⟨hcz99_0, hcz99_1, hcz99_2, hfz99_0, hfz99_1, hfz99_2⟩ := cz3 BK466.out))
                     have n0_ : Aside0 (Kd.R k33 33 (((w97.setCell ⟨gb466, 0, none⟩ (.bool ((rd_T33 x7_4 x112_5).f0))).setCell ⟨gb466, 1, none⟩ (.string ((rd_T33 x7_4 x112_5).f1))).setCell ⟨gb466, 2, none⟩ (.string ((rd_T33 x7_4 x112_5).f2))) w.heap.size (fun k_ => k_ ≠ gb466) (.slice (some ad465) x7_4.length co90) x7_4) := ⟨Kd.R_up (Kd.R_mono (Kd.R_far (p := ⟨gb466, 2, none⟩) (Kd.R_far (p := ⟨gb466, 1, none⟩) (Kd.R_far (p := ⟨gb466, 0, none⟩) (Kd.R_mono HO_110.out (fun k_ hk => (⟨hk, hk.2⟩ : _ ∧ k_ ≠ gb466))) (fun _ hk => hk.2) (.bool ((rd_T33 x7_4 x112_5).f0))) (fun _ hk => hk.2) (.string ((rd_T33 x7_4 x112_5).f1))) (fun _ hk => hk.2) (.string ((rd_T33 x7_4 x112_5).f2))) (fun _ hk => hk.1.2))⟩
                     have n1_ : Aside0 ((((w97.setCell ⟨gb466, 0, none⟩ (.bool ((rd_T33 x7_4 x112_5).f0))).setCell ⟨gb466, 1, none⟩ (.string ((rd_T33 x7_4 x112_5).f1))).setCell ⟨gb466, 2, none⟩ (.string ((rd_T33 x7_4 x112_5).f2))).heap[gb447]? = some (.cells #[.slice A0_0 l0_0.length c0_0, .slice A0_1 l0_1.length c0_1, .slice A0_2 l0_2.length c0_2] 26 (0, 0))) := ⟨kP BK447.out⟩
                     have n2_ : Aside0 ((((w97.setCell ⟨gb466, 0, none⟩ (.bool ((rd_T33 x7_4 x112_5).f0))).setCell ⟨gb466, 1, none⟩ (.string ((rd_T33 x7_4 x112_5).f1))).setCell ⟨gb466, 2, none⟩ (.string ((rd_T33 x7_4 x112_5).f2))).heap[gb466]? = some (.cells #[.bool ((rd_T33 x7_4 x112_5).f0), .string ((rd_T33 x7_4 x112_5).f1), .string ((rd_T33 x7_4 x112_5).f2)] 33 (0, 0))) := ⟨kP BK466.out⟩
                     have n3_ : Aside0 (Below w.heap.size w (((w97.setCell ⟨gb466, 0, none⟩ (.bool ((rd_T33 x7_4 x112_5).f0))).setCell ⟨gb466, 1, none⟩ (.string ((rd_T33 x7_4 x112_5).f1))).setCell ⟨gb466, 2, none⟩ (.string ((rd_T33 x7_4 x112_5).f2)))) := ⟨bU HB.out⟩
                     (try clear HO_110)
                     (try clear BK447)
                     (try clear BK466)
                     (try clear HB)
                     generalize (((w97.setCell ⟨gb466, 0, none⟩ (.bool ((rd_T33 x7_4 x112_5).f0))).setCell ⟨gb466, 1, none⟩ (.string ((rd_T33 x7_4 x112_5).f1))).setCell ⟨gb466, 2, none⟩ (.string ((rd_T33 x7_4 x112_5).f2))) = w100 at n0_ n1_ n2_ n3_ ⊢
                     have HO_110 := n0_
                     have BK447 := n1_
                     have BK466 := n2_
                     have HB := n3_
                     clear n0_ n1_ n2_ n3_
                     have n0_ := aM (Kd.R_drew HO_110.out)
                     have n1_ := aM (blk_drew BK447.out)
                     have n2_ := aM (blk_drew BK466.out)
                     have n3_ := aM (below_drew1 HB.out)
                     clear HO_110
                     clear BK447
                     clear BK466
                     clear HB
                     have HO_110 := n0_
                     have BK447 := n1_
                     have BK466 := n2_
                     have HB := n3_
                     clear n0_ n1_ n2_ n3_
                     refine start_ (n := 4) (S := fun w' => w'.cell? ⟨gb466, 0, none⟩ = some (.bool ((rd_T33 x7_4 x112_5).f0)) ∧ w'.cell? ⟨gb466, 1, none⟩ = some (.string ((rd_T33 x7_4 x112_5).f1)) ∧ w'.cell? ⟨gb466, 2, none⟩ = some (.string ((rd_T33 x7_4 x112_5).f2))) (ds := []) #[false, false, false, false] (by kernel_rfl) rfl rfl ⟨(blk_cell BK466.out 0).trans rfl, (blk_cell BK466.out 1).trans rfl, (blk_cell BK466.out 2).trans rfl⟩ (fun hHeld => ?_)
                     generalize w100.drew = w101 at HO_110 BK447 BK466 HB hHeld ⊢
                     refine take_ (i := 0) (N := some 116) (v := ?_) (a' := ?_) #[true, false, false, false] rfl rfl (by kernel_rfl) (fun _ _ _ h => h) (Or.inl ⟨by rfl, ?_⟩) hHeld ?_ ?_
                     rotate_left
                     ·rintro w' ⟨s0, s1, s2⟩
                      go_simp
                      with_reducible rfl
                     rotate_left
                     ·simp only [Act.put, sTA, sC0, sCS, i64_w, i32_w]
                      rfl
                     refine one_ (i := 1) (N := some 117) #[true, true, false, false] rfl rfl (by kernel_rfl) (by decide) (fun K hK => ?_)
                     refine goesq Tryd.func24 #[.int .i64 1] (by rfl) rfl rfl ?_
                     with_reducible refine (rational_Int.calls k5 1 t467 t468 t469 _ A94.out).mono ?_
                     rintro e w102 ⟨rfl, hb⟩
                     refine ⟨_, rfl, ?_⟩
                     have n0_ := aM (Kd.R_below (Kd.R_up HO_110.out) hb)
                     have n1_ := aM (blk_below (kU BK447.out) hb)
                     have n2_ := aM (blk_below (kU BK466.out) hb)
                     have n3_ := aM (below_step (bU HB.out) hb)
                     clear HO_110
                     clear BK447
                     clear BK466
                     clear HB
                     have HO_110 := n0_
                     have BK447 := n1_
                     have BK466 := n2_
                     have HB := n3_
                     clear n0_ n1_ n2_ n3_
                     (try clear hb)
                     (try clear hb2)
                     (try clear hk)
                     (try clear hi)
                     refine hK.out _ _ ⟨(blk_cell BK466.out 0).trans rfl, (blk_cell BK466.out 1).trans rfl, (blk_cell BK466.out 2).trans rfl⟩ (fun hHeld => ?_)
                     clear hK K
                     refine norm_ (a' := ?_) ?_ ?_
                     rotate_left
                     ·show Act.put _ (some 117) _ = _
                      simp only [Act.put, sTA, sC0, sCS, i64_w, i32_w]
                      rfl
                     refine one_ (i := 2) (N := some 118) #[true, true, true, false] rfl rfl (by kernel_rfl) (by decide) (fun K hK => ?_)
                     refine goesq Tryd.func16 #[.agg #[.bool ((rd_T33 x7_4 x112_5).f0), .string ((rd_T33 x7_4 x112_5).f1), .string ((rd_T33 x7_4 x112_5).f2)], .agg #[.bool t467, .string t468, .string t469]] (by rfl) rfl rfl ?_
                     with_reducible refine (rational_Compare.calls k5 ((rd_T33 x7_4 x112_5).f0) ((rd_T33 x7_4 x112_5).f1) ((rd_T33 x7_4 x112_5).f2) t467 t468 t469 t470 _ A95.out).mono ?_
                     rintro e w103 ⟨rfl, hb⟩
                     refine ⟨_, rfl, ?_⟩
                     have n0_ := aM (Kd.R_below (Kd.R_up HO_110.out) hb)
                     have n1_ := aM (blk_below (kU BK447.out) hb)
                     have n2_ := aM (blk_below (kU BK466.out) hb)
                     have n3_ := aM (below_step (bU HB.out) hb)
                     clear HO_110
                     clear BK447
                     clear BK466
                     clear HB
                     have HO_110 := n0_
                     have BK447 := n1_
                     have BK466 := n2_
                     have HB := n3_
                     clear n0_ n1_ n2_ n3_
                     (try clear hb)
                     (try clear hb2)
                     (try clear hk)
                     (try clear hi)
                     refine hK.out _ _ ⟨(blk_cell BK466.out 0).trans rfl, (blk_cell BK466.out 1).trans rfl, (blk_cell BK466.out 2).trans rfl⟩ (fun hHeld => ?_)
                     clear hK K
                     refine norm_ (a' := ?_) ?_ ?_
                     rotate_left
                     ·show Act.put _ (some 118) _ = _
                      simp only [Act.put, sTA, sC0, sCS, i64_w, i32_w]
                      rfl
                     refine pure_ (i := 3) (N := some 119) (v := ?_) (a' := ?_) #[true, true, true, true] rfl rfl (by kernel_rfl) (fun _ _ _ h => h) (Or.inl ⟨by rfl, ?_⟩) ?_ ?_
                     rotate_left
                     ·intro w'
                      go_simp
                      with_reducible rfl
                     rotate_left
                     ·simp only [Act.put, sTA, sC0, sCS, i64_w, i32_w]
                      rfl
                     refine done_ (by kernel_rfl) ?_
                     try go_wp2
                     go_ret
                     exact ⟨by first | rfl | (simp [errW_none, errW_some] <;> rfl) | (simp [*, errW_none, errW_some] <;> rfl), bU HB.out⟩
                    ·rw [if_neg c96] at H
                     have c96b0 : decide (0 < t470) = false := decide_eq_false c96
                     clear c96
                     have H' := Aside0.mk H
                     clear H
                     have p465 : 0 ≤ (x112_5 : Int) := oD
                     have q465 : x112_5 < (x7_4.length : Int) := oD
                     obtain ⟨ad465, e465, hx465_0, hx465_1, hx465_2⟩ := at_T33 (Kd.R_reads' HO_110.out).2.2 x112_5 p465 q465
                     cases e465
                     replace p465 := eq_true p465
                     replace q465 := eq_true q465
                     try go_wp2_with (first | ((with_reducible refine gate_dst (N := 11) rfl ?_); refine box_event ?hg (N := 11) ?hd (cs := #[.bool false, .string (⟨#[]⟩ : ByteArray), .string (⟨#[]⟩ : ByteArray)]) (t := 33) ?hr ?_; (case hd => rfl); (case hg => rfl); (case hr => first | (go_simp; done) | (go_simp; rfl)); intro gb466 hg w104 hbox hb; have n0_ := aM (Kd.R_below (Kd.R_elderB (Kd.R_up HO_110.out) gb466 (Nat.le_of_eq hg.symm)) hb); have n1_ := aM (blk_below (kU BK447.out) hb); have n2_ := aM (below_step (bU HB.out) hb); have n3_ := aM (hbox); have n4_ := aM ((by rw [hg]; exact (below_size (bU HB.out)) : w.heap.size ≤ gb466)); have n5_ := aM ((by rw [hg]; exact (below_size (bU HB.out)) : w.heap.size ≤ gb466)); have n6_ := aM ((by rw [hg]; exact Nat.ne_of_lt (blk_lt (kU BK447.out)) : gb447 ≠ gb466)); have n7_ := aM ((by rw [hg]; exact Nat.ne_of_gt (blk_lt (kU BK447.out)) : gb466 ≠ gb447)); clear HO_110; clear BK447; clear HB; have HO_110 := n0_; have BK447 := n1_; have HB := n2_; have BK466 := n3_; have GW466 := n4_; have GE466 := n5_; have NB447_466 := n6_; have NB466_447 := n7_; clear n0_ n1_ n2_ n3_ n4_ n5_ n6_ n7_; clear hb hbox hg; have hnb105 := NB466_447.out; have hnc105 := NB447_466.out; obtain ⟨hcz106_0, hcz106_1, hcz106_2, hfz106_0, hfz106_1, hfz106_2⟩ := cz3 BK466.out))
                     have n0_ : Aside0 (Kd.R k33 33 (((w104.setCell ⟨gb466, 0, none⟩ (.bool ((rd_T33 x7_4 x112_5).f0))).setCell ⟨gb466, 1, none⟩ (.string ((rd_T33 x7_4 x112_5).f1))).setCell ⟨gb466, 2, none⟩ (.string ((rd_T33 x7_4 x112_5).f2))) w.heap.size (fun k_ => k_ ≠ gb466) (.slice (some ad465) x7_4.length co90) x7_4) := ⟨Kd.R_up (Kd.R_mono (Kd.R_far (p := ⟨gb466, 2, none⟩) (Kd.R_far (p := ⟨gb466, 1, none⟩) (Kd.R_far (p := ⟨gb466, 0, none⟩) (Kd.R_mono HO_110.out (fun k_ hk => (⟨hk, hk.2⟩ : _ ∧ k_ ≠ gb466))) (fun _ hk => hk.2) (.bool ((rd_T33 x7_4 x112_5).f0))) (fun _ hk => hk.2) (.string ((rd_T33 x7_4 x112_5).f1))) (fun _ hk => hk.2) (.string ((rd_T33 x7_4 x112_5).f2))) (fun _ hk => hk.1.2))⟩
                     have n1_ : Aside0 ((((w104.setCell ⟨gb466, 0, none⟩ (.bool ((rd_T33 x7_4 x112_5).f0))).setCell ⟨gb466, 1, none⟩ (.string ((rd_T33 x7_4 x112_5).f1))).setCell ⟨gb466, 2, none⟩ (.string ((rd_T33 x7_4 x112_5).f2))).heap[gb447]? = some (.cells #[.slice A0_0 l0_0.length c0_0, .slice A0_1 l0_1.length c0_1, .slice A0_2 l0_2.length c0_2] 26 (0, 0))) := ⟨kP BK447.out⟩
                     have n2_ : Aside0 ((((w104.setCell ⟨gb466, 0, none⟩ (.bool ((rd_T33 x7_4 x112_5).f0))).setCell ⟨gb466, 1, none⟩ (.string ((rd_T33 x7_4 x112_5).f1))).setCell ⟨gb466, 2, none⟩ (.string ((rd_T33 x7_4 x112_5).f2))).heap[gb466]? = some (.cells #[.bool ((rd_T33 x7_4 x112_5).f0), .string ((rd_T33 x7_4 x112_5).f1), .string ((rd_T33 x7_4 x112_5).f2)] 33 (0, 0))) := ⟨kP BK466.out⟩
                     have n3_ : Aside0 (Below w.heap.size w (((w104.setCell ⟨gb466, 0, none⟩ (.bool ((rd_T33 x7_4 x112_5).f0))).setCell ⟨gb466, 1, none⟩ (.string ((rd_T33 x7_4 x112_5).f1))).setCell ⟨gb466, 2, none⟩ (.string ((rd_T33 x7_4 x112_5).f2)))) := ⟨bU HB.out⟩
                     (try clear HO_110)
                     (try clear BK447)
                     (try clear BK466)
                     (try clear HB)
                     generalize (((w104.setCell ⟨gb466, 0, none⟩ (.bool ((rd_T33 x7_4 x112_5).f0))).setCell ⟨gb466, 1, none⟩ (.string ((rd_T33 x7_4 x112_5).f1))).setCell ⟨gb466, 2, none⟩ (.string ((rd_T33 x7_4 x112_5).f2))) = w107 at n0_ n1_ n2_ n3_ ⊢
                     have HO_110 := n0_
                     have BK447 := n1_
                     have BK466 := n2_
                     have HB := n3_
                     clear n0_ n1_ n2_ n3_
                     have n0_ := aM (Kd.R_drew HO_110.out)
                     have n1_ := aM (blk_drew BK447.out)
                     have n2_ := aM (blk_drew BK466.out)
                     have n3_ := aM (below_drew1 HB.out)
                     clear HO_110
                     clear BK447
                     clear BK466
                     clear HB
                     have HO_110 := n0_
                     have BK447 := n1_
                     have BK466 := n2_
                     have HB := n3_
                     clear n0_ n1_ n2_ n3_
                     refine start_ (n := 4) (S := fun w' => w'.cell? ⟨gb466, 0, none⟩ = some (.bool ((rd_T33 x7_4 x112_5).f0)) ∧ w'.cell? ⟨gb466, 1, none⟩ = some (.string ((rd_T33 x7_4 x112_5).f1)) ∧ w'.cell? ⟨gb466, 2, none⟩ = some (.string ((rd_T33 x7_4 x112_5).f2))) (ds := []) #[false, false, false, false] (by kernel_rfl) rfl rfl ⟨(blk_cell BK466.out 0).trans rfl, (blk_cell BK466.out 1).trans rfl, (blk_cell BK466.out 2).trans rfl⟩ (fun hHeld => ?_)
                     generalize w107.drew = w108 at HO_110 BK447 BK466 HB hHeld ⊢
                     refine take_ (i := 0) (N := some 116) (v := ?_) (a' := ?_) #[true, false, false, false] rfl rfl (by kernel_rfl) (fun _ _ _ h => h) (Or.inl ⟨by rfl, ?_⟩) hHeld ?_ ?_
                     rotate_left
                     ·rintro w' ⟨s0, s1, s2⟩
                      go_simp
                      with_reducible rfl
                     rotate_left
                     ·simp only [Act.put, sTA, sC0, sCS, i64_w, i32_w]
                      rfl
                     refine one_ (i := 1) (N := some 117) #[true, true, false, false] rfl rfl (by kernel_rfl) (by decide) (fun K hK => ?_)
                     refine goesq Tryd.func24 #[.int .i64 1] (by rfl) rfl rfl ?_
                     with_reducible refine (rational_Int.calls k5 1 t467 t468 t469 _ A94.out).mono ?_
                     rintro e w109 ⟨rfl, hb⟩
                     refine ⟨_, rfl, ?_⟩
                     have n0_ := aM (Kd.R_below (Kd.R_up HO_110.out) hb)
                     have n1_ := aM (blk_below (kU BK447.out) hb)
                     have n2_ := aM (blk_below (kU BK466.out) hb)
                     have n3_ := aM (below_step (bU HB.out) hb)
                     clear HO_110
                     clear BK447
                     clear BK466
                     clear HB
                     have HO_110 := n0_
                     have BK447 := n1_
                     have BK466 := n2_
                     have HB := n3_
                     clear n0_ n1_ n2_ n3_
                     (try clear hb)
                     (try clear hb2)
                     (try clear hk)
                     (try clear hi)
                     refine hK.out _ _ ⟨(blk_cell BK466.out 0).trans rfl, (blk_cell BK466.out 1).trans rfl, (blk_cell BK466.out 2).trans rfl⟩ (fun hHeld => ?_)
                     clear hK K
                     refine norm_ (a' := ?_) ?_ ?_
                     rotate_left
                     ·show Act.put _ (some 117) _ = _
                      simp only [Act.put, sTA, sC0, sCS, i64_w, i32_w]
                      rfl
                     refine one_ (i := 2) (N := some 118) #[true, true, true, false] rfl rfl (by kernel_rfl) (by decide) (fun K hK => ?_)
                     refine goesq Tryd.func16 #[.agg #[.bool ((rd_T33 x7_4 x112_5).f0), .string ((rd_T33 x7_4 x112_5).f1), .string ((rd_T33 x7_4 x112_5).f2)], .agg #[.bool t467, .string t468, .string t469]] (by rfl) rfl rfl ?_
                     with_reducible refine (rational_Compare.calls k5 ((rd_T33 x7_4 x112_5).f0) ((rd_T33 x7_4 x112_5).f1) ((rd_T33 x7_4 x112_5).f2) t467 t468 t469 t470 _ A95.out).mono ?_
                     rintro e w110 ⟨rfl, hb⟩
                     refine ⟨_, rfl, ?_⟩
                     have n0_ := aM (Kd.R_below (Kd.R_up HO_110.out) hb)
                     have n1_ := aM (blk_below (kU BK447.out) hb)
                     have n2_ := aM (blk_below (kU BK466.out) hb)
                     have n3_ := aM (below_step (bU HB.out) hb)
                     clear HO_110
                     clear BK447
                     clear BK466
                     clear HB
                     have HO_110 := n0_
                     have BK447 := n1_
                     have BK466 := n2_
                     have HB := n3_
                     clear n0_ n1_ n2_ n3_
                     (try clear hb)
                     (try clear hb2)
                     (try clear hk)
                     (try clear hi)
                     refine hK.out _ _ ⟨(blk_cell BK466.out 0).trans rfl, (blk_cell BK466.out 1).trans rfl, (blk_cell BK466.out 2).trans rfl⟩ (fun hHeld => ?_)
                     clear hK K
                     refine norm_ (a' := ?_) ?_ ?_
                     rotate_left
                     ·show Act.put _ (some 118) _ = _
                      simp only [Act.put, sTA, sC0, sCS, i64_w, i32_w]
                      rfl
                     refine pure_ (i := 3) (N := some 119) (v := ?_) (a' := ?_) #[true, true, true, true] rfl rfl (by kernel_rfl) (fun _ _ _ h => h) (Or.inl ⟨by rfl, ?_⟩) ?_ ?_
                     rotate_left
                     ·intro w'
                      go_simp
                      with_reducible rfl
                     rotate_left
                     ·simp only [Act.put, sTA, sC0, sCS, i64_w, i32_w]
                      rfl
                     refine done_ (by kernel_rfl) ?_
                     try go_wp2
                     go_roundg k5
                     case measure => have := HJ1.out; have := HK2.out; have := HK3.out; have := HK4.out; have := HK5.out; omega
                     case rel => exact ⟨(wrap64 (x112_5 + 1)), (by first | rfl | (simp; done) | (simp [*]; done)), H', ⟨by have := HJ1.out; have := HK2.out; have := HK3.out; have := HK4.out; have := HK5.out; omega⟩, ⟨Kd.R_up (Kd.R_mono HO_110.out (fun _ hk => trivial))⟩, ⟨kU BK447.out⟩, ⟨bU HB.out⟩⟩
                   ·rw [if_neg c93] at H
                    exact absurd H (by simp)
                  ·rw [if_neg c92] at H
                   exact absurd H (by simp)
                 ·rw [if_neg c91] at H
                  have c91b0 := decide_eq_false c91
                  clear c91
                  have H' := Aside0.mk H
                  clear H
                  obtain ⟨hcz111_0, hcz111_1, hcz111_2, hfz111_0, hfz111_1, hfz111_2⟩ := cz3 BK447.out
                  go_wp2
                  go_loopg [124] k5 (fun kq v124 w' => ∃ (x124_6 : Int), v124 = .int .i64 x124_6 ∧ Aside0 (party_Check.l4 kq l0_2 (l0_2.length : Int) x124_6 l0_0 l0_1 l0_2 = some r) ∧ Aside0 (kq ≤ k5) ∧ Aside0 (w'.heap[gb447]? = some (.cells #[(.slice A0_0 l0_0.length c0_0), (.slice A0_1 l0_1.length c0_1), (.slice A0_2 l0_2.length c0_2)] 26 (0, 0))) ∧ Aside0 (Below w.heap.size w w'))
                  case atStart => exact ⟨(0), (by first | rfl | (simp; done) | (simp [*]; done)), H', ⟨Nat.le_refl _⟩, ⟨kU BK447.out⟩, ⟨bU HB.out⟩⟩
                  case round =>
                   clear H'
                   (try clear c1); (try clear c2); (try clear p2); (try clear c3); (try clear c4); (try clear p4); (try clear q4); (try clear hx4); (try clear c5); (try clear c6); (try clear p6); (try clear c7); (try clear c8); (try clear p8); (try clear q8); (try clear hx8); (try clear hf8); (try clear c9); (try clear c10); (try clear c16); (try clear c24); (try clear c29); (try clear c29b0); (try clear c30); (try clear c30b0); (try clear c30b1); (try clear c31); (try clear c40); (try clear p44); (try clear q44); (try clear hx44); (try clear p45); (try clear q45); (try clear hx45); (try clear p46); (try clear q46); (try clear hx46); (try clear c49); (try clear c56); (try clear c60); (try clear c62); (try clear c62b0); (try clear c63); (try clear p64); (try clear c66); (try clear c69); (try clear c69b0); (try clear c69b1); (try clear c70); (try clear c70b0); (try clear c70b1); (try clear c75); (try clear c75b0); (try clear c76); (try clear c76b0); (try clear c77); (try clear c77b0); (try clear c78); (try clear c78b0); (try clear c79); (try clear c79b0); (try clear c81); (try clear p81); (try clear q81); (try clear hx81); (try clear hf81); (try clear c83); (try clear c89); (try clear c91); (try clear c91b0); (try clear c92); (try clear c92b0); (try clear c93); (try clear c93b0); (try clear c96); (try clear c96b0); (try clear c98); (try clear c105); (try clear hcz106_0 hcz106_1 hcz106_2); (try clear hcz10_0 hcz10_1 hcz10_2); (try clear hcz111_0 hcz111_1 hcz111_2); (try clear hcz16_0 hcz16_1 hcz16_2); (try clear hcz23_0 hcz23_1 hcz23_2 hcz23_3 hcz23_4); (try clear hcz32_0 hcz32_1 hcz32_2); (try clear hcz33_0 hcz33_1 hcz33_2 hcz33_3 hcz33_4); (try clear hcz35_0 hcz35_1 hcz35_2); (try clear hcz36_0 hcz36_1 hcz36_2 hcz36_3 hcz36_4); (try clear hcz38_0 hcz38_1 hcz38_2); (try clear hcz39_0 hcz39_1 hcz39_2 hcz39_3 hcz39_4); (try clear hcz41_0 hcz41_1 hcz41_2); (try clear hcz42_0 hcz42_1 hcz42_2 hcz42_3 hcz42_4); (try clear hcz44_0 hcz44_1 hcz44_2); (try clear hcz45_0 hcz45_1 hcz45_2 hcz45_3 hcz45_4); (try clear hcz47_0 hcz47_1 hcz47_2); (try clear hcz48_0 hcz48_1 hcz48_2 hcz48_3 hcz48_4); (try clear hcz50_0 hcz50_1 hcz50_2); (try clear hcz51_0 hcz51_1 hcz51_2 hcz51_3 hcz51_4); (try clear hcz53_0 hcz53_1 hcz53_2); (try clear hcz54_0 hcz54_1 hcz54_2 hcz54_3 hcz54_4); (try clear hcz57_0 hcz57_1 hcz57_2); (try clear hcz58_0 hcz58_1 hcz58_2 hcz58_3 hcz58_4); (try clear hcz5_0 hcz5_1 hcz5_2); (try clear hcz64_0 hcz64_1 hcz64_2 hcz64_3 hcz64_4); (try clear hcz67_0 hcz67_1 hcz67_2 hcz67_3 hcz67_4); (try clear hcz71_0 hcz71_1 hcz71_2); (try clear hcz74_0 hcz74_1 hcz74_2); (try clear hcz7_0 hcz7_1 hcz7_2); (try clear hcz84_0 hcz84_1 hcz84_2 hcz84_3 hcz84_4); (try clear hcz8_0 hcz8_1 hcz8_2); (try clear hcz99_0 hcz99_1 hcz99_2); (try clear hfz106_0 hfz106_1 hfz106_2); (try clear hfz10_0 hfz10_1 hfz10_2); (try clear hfz111_0 hfz111_1 hfz111_2); (try clear hfz16_0 hfz16_1 hfz16_2); (try clear hfz23_0 hfz23_1 hfz23_2 hfz23_3 hfz23_4); (try clear hfz32_0 hfz32_1 hfz32_2); (try clear hfz33_0 hfz33_1 hfz33_2 hfz33_3 hfz33_4); (try clear hfz35_0 hfz35_1 hfz35_2); (try clear hfz36_0 hfz36_1 hfz36_2 hfz36_3 hfz36_4); (try clear hfz38_0 hfz38_1 hfz38_2); (try clear hfz39_0 hfz39_1 hfz39_2 hfz39_3 hfz39_4); (try clear hfz41_0 hfz41_1 hfz41_2); (try clear hfz42_0 hfz42_1 hfz42_2 hfz42_3 hfz42_4); (try clear hfz44_0 hfz44_1 hfz44_2); (try clear hfz45_0 hfz45_1 hfz45_2 hfz45_3 hfz45_4); (try clear hfz47_0 hfz47_1 hfz47_2); (try clear hfz48_0 hfz48_1 hfz48_2 hfz48_3 hfz48_4); (try clear hfz50_0 hfz50_1 hfz50_2); (try clear hfz51_0 hfz51_1 hfz51_2 hfz51_3 hfz51_4); (try clear hfz53_0 hfz53_1 hfz53_2); (try clear hfz54_0 hfz54_1 hfz54_2 hfz54_3 hfz54_4); (try clear hfz57_0 hfz57_1 hfz57_2); (try clear hfz58_0 hfz58_1 hfz58_2 hfz58_3 hfz58_4); (try clear hfz5_0 hfz5_1 hfz5_2); (try clear hfz64_0 hfz64_1 hfz64_2 hfz64_3 hfz64_4); (try clear hfz67_0 hfz67_1 hfz67_2 hfz67_3 hfz67_4); (try clear hfz71_0 hfz71_1 hfz71_2); (try clear hfz74_0 hfz74_1 hfz74_2); (try clear hfz7_0 hfz7_1 hfz7_2); (try clear hfz84_0 hfz84_1 hfz84_2 hfz84_3 hfz84_4); (try clear hfz8_0 hfz8_1 hfz8_2); (try clear hfz99_0 hfz99_1 hfz99_2); (try clear hx448_0); (try clear hx449_0); (try clear hx449_1); (try clear hx449_2); (try clear hx449_3); (try clear hx449_4); (try clear hx453_0); (try clear hx458_0); (try clear hx458_1); (try clear hx458_2); (try clear hx458_3); (try clear hx458_4); (try clear hx460_0); (try clear hx460_1); (try clear hx460_2); (try clear hx465_0); (try clear hx465_1); (try clear hx465_2); (try clear hx81_0); (try clear hx81_1); (try clear hx81_2); (try clear p2); (try clear p4); (try clear p44); (try clear p448); (try clear p449); (try clear p45); (try clear p453); (try clear p458); (try clear p46); (try clear p460); (try clear p465); (try clear p6); (try clear p64); (try clear p81); (try clear q4); (try clear q44); (try clear q448); (try clear q449); (try clear q45); (try clear q453); (try clear q458); (try clear q46); (try clear q460); (try clear q465); (try clear q81)
                   obtain ⟨x124_6, rfl, HA, HK6, BK447, HB⟩ := hrel
                   cases gk with
                   | zero => exact absurd HA.out (by simp [party_Check.l4])
                   | succ k6 =>
                    have H := HA.out
                    clear HA
                    simp only [party_Check.l4] at H
                    by_cases c112 : x124_6 < (l0_2.length : Int)
                    ·rw [if_pos c112] at H
                     have c112b0 := decide_eq_true c112
                     clear c112
                     by_cases c113 : 0 ≤ x124_6
                     ·rw [if_pos c113] at H
                      have c113b0 := decide_eq_true c113
                      clear c113
                      by_cases c114 : x124_6 < (l0_2.length : Int)
                      ·rw [if_pos c114] at H
                       have c114b0 := decide_eq_true c114
                       clear c114
                       replace H := bE H
                       obtain ⟨t473, A1150, H⟩ := H
                       replace H : (if t473 = true then ((party_is.f l0_0 l0_1 l0_2 ((rd_T38 l0_2 x124_6).f1)).bind fun t474 => (if t474 = true then (if ((rd_T38 l0_2 x124_6).f0) = ((rd_T38 l0_2 x124_6).f1) then (some 14) else (party_Check.l4 k6 l0_2 (l0_2.length : Int) (wrap64 (x124_6 + 1)) l0_0 l0_1 l0_2)) else (some 14))) else (some 14)) = some r := H
                       have A115 := Aside0.mk A1150
                       clear A1150
                       by_cases c116 : t473 = true
                       ·subst c116
                        have H1 : ((party_is.f l0_0 l0_1 l0_2 ((rd_T38 l0_2 x124_6).f1)).bind fun t474 => (if t474 = true then (if ((rd_T38 l0_2 x124_6).f0) = ((rd_T38 l0_2 x124_6).f1) then (some 14) else (party_Check.l4 k6 l0_2 (l0_2.length : Int) (wrap64 (x124_6 + 1)) l0_0 l0_1 l0_2)) else (some 14))) = some r := by rw [if_pos rfl] at H; exact H
                        clear H
                        have H := H1
                        clear H1
                        replace H := bE H
                        obtain ⟨t474, A1170, H⟩ := H
                        replace H : (if t474 = true then (if ((rd_T38 l0_2 x124_6).f0) = ((rd_T38 l0_2 x124_6).f1) then (some 14) else (party_Check.l4 k6 l0_2 (l0_2.length : Int) (wrap64 (x124_6 + 1)) l0_0 l0_1 l0_2)) else (some 14)) = some r := H
                        have A117 := Aside0.mk A1170
                        clear A1170
                        by_cases c118 : t474 = true
                        ·subst c118
                         have H1 : (if ((rd_T38 l0_2 x124_6).f0) = ((rd_T38 l0_2 x124_6).f1) then (some 14) else (party_Check.l4 k6 l0_2 (l0_2.length : Int) (wrap64 (x124_6 + 1)) l0_0 l0_1 l0_2)) = some r := by rw [if_pos rfl] at H; exact H
                         clear H
                         have H := H1
                         clear H1
                         by_cases c119 : ((rd_T38 l0_2 x124_6).f0) = ((rd_T38 l0_2 x124_6).f1)
                         ·rw [if_pos c119] at H
                          have c119b0 : (((rd_T38 l0_2 x124_6).f0) == ((rd_T38 l0_2 x124_6).f1)) = true := beq_iff_eq.mpr c119
                          have c119b1 : (((rd_T38 l0_2 x124_6).f0) != ((rd_T38 l0_2 x124_6).f1)) = false := bne_eq_false_iff_eq.mpr c119
                          clear c119
                          obtain rfl := Option.some.inj H
                          have p471 : 0 ≤ (x124_6 : Int) := oD
                          have q471 : x124_6 < (l0_2.length : Int) := oD
                          obtain ⟨ad471, e471, hx471_0, hx471_1⟩ := at_T38 HR0_2.out x124_6 p471 q471
                          cases e471
                          replace hx471_0 := (HB.out.cell (World.block_lt_of_cell? w _ hx471_0)).trans hx471_0
                          replace hx471_1 := (HB.out.cell (World.block_lt_of_cell? w _ hx471_1)).trans hx471_1
                          replace p471 := eq_true p471
                          replace q471 := eq_true q471
                          go_wp2_with (first | ((with_reducible refine gate_dst (N := 13) rfl ?_); refine box_event ?hg (N := 13) ?hd (cs := #[.int .i64 0, .int .i64 0]) (t := 38) ?hr ?_; (case hd => rfl); (case hg => rfl); (case hr => first | (go_simp; done) | (go_simp; rfl)); intro gb472 hg w120 hbox hb; have n0_ := aM (blk_below (kU BK447.out) hb); have n1_ := aM (below_step (bU HB.out) hb); have n2_ := aM (hbox); have n3_ := aM ((by rw [hg]; exact (below_size (bU HB.out)) : w.heap.size ≤ gb472)); have n4_ := aM ((by rw [hg]; exact (below_size (bU HB.out)) : w.heap.size ≤ gb472)); have n5_ := aM ((by rw [hg]; exact Nat.ne_of_lt (blk_lt (kU BK447.out)) : gb447 ≠ gb472)); have n6_ := aM ((by rw [hg]; exact Nat.ne_of_gt (blk_lt (kU BK447.out)) : gb472 ≠ gb447)); clear BK447; clear HB; have BK447 := n0_; have HB := n1_; have BK472 := n2_; have GW472 := n3_; have GE472 := n4_; have NB447_472 := n5_; have NB472_447 := n6_; clear n0_ n1_ n2_ n3_ n4_ n5_ n6_; clear hb hbox hg; have hnb121 := NB472_447.out; have hnc121 := NB447_472.out; obtain ⟨hcz122_0, hcz122_1, hfz122_0, hfz122_1⟩ := cz2 BK472.out; obtain ⟨hcz123_0, hcz123_1, hcz123_2, hfz123_0, hfz123_1, hfz123_2⟩ := cz3 BK447.out) | ((with_reducible refine gate_callee (f := 21) rfl ?_); refine goesLq (some 131) rfl rfl Tryd.func21 #[.agg #[.slice A0_0 l0_0.length c0_0, .slice A0_1 l0_1.length c0_1, .slice (some ad471) l0_2.length c0_2], .int .i64 ((rd_T38 l0_2 x124_6).f0)] rfl ?_; (with_reducible refine (party_is.calls _ _ l0_0 _ _ l0_1 _ _ l0_2 ((rd_T38 l0_2 x124_6).f0) true _ ?side1 ?side2 ?side3 ?side4 ?side5 ?side6 A115.out).mono ?_); (case side1 => exact Kd.C_below HR0_0.out (bU HB.out)); (case side2 => exact HC0_0.out); (case side3 => exact Kd.C_below HR0_1.out (bU HB.out)); (case side4 => exact HC0_1.out); (case side5 => exact Kd.C_below HR0_2.out (bU HB.out)); (case side6 => exact HC0_2.out); rintro e w124 ⟨rfl, hb⟩; refine ⟨_, rfl, ?_⟩; have n0_ := aM (blk_below (g := gb447) (o := .cells #[.slice A0_0 l0_0.length c0_0, .slice A0_1 l0_1.length c0_1, .slice (some ad471) l0_2.length c0_2] 26 (0, 0)) (kP BK447.out) hb); have n1_ := aM (blk_below (g := gb472) (o := .cells #[.int .i64 ((rd_T38 l0_2 x124_6).f0), .int .i64 ((rd_T38 l0_2 x124_6).f1)] 38 (0, 0)) (kP BK472.out) hb); have n2_ := aM (below_step (bU HB.out) hb); clear BK447; clear BK472; clear HB; have BK447 := n0_; have BK472 := n1_; have HB := n2_; clear n0_ n1_ n2_; (try clear hb); (try clear hb2); (try clear hk); (try clear hi); obtain ⟨hcz125_0, hcz125_1, hcz125_2, hfz125_0, hfz125_1, hfz125_2⟩ := cz3 BK447.out; obtain ⟨hcz126_0, hcz126_1, hfz126_0, hfz126_1⟩ := cz2 BK472.out) | (go_at_call 21; (with_reducible refine (party_is.calls _ _ l0_0 _ _ l0_1 _ _ l0_2 ((rd_T38 l0_2 x124_6).f1) true _ ?side1 ?side2 ?side3 ?side4 ?side5 ?side6 A117.out).mono ?_); (case side1 => exact Kd.C_up (Kd.C_below HR0_0.out HB.out)); (case side2 => exact HC0_0.out); (case side3 => exact Kd.C_up (Kd.C_below HR0_1.out HB.out)); (case side4 => exact HC0_1.out); (case side5 => exact Kd.C_up (Kd.C_below HR0_2.out HB.out)); (case side6 => exact HC0_2.out); rintro e w127 ⟨rfl, hb⟩; have n0_ := aM (blk_below (kU BK447.out) hb); have n1_ := aM (blk_below (kU BK472.out) hb); have n2_ := aM (below_step (bU HB.out) hb); clear BK447; clear BK472; clear HB; have BK447 := n0_; have BK472 := n1_; have HB := n2_; clear n0_ n1_ n2_; (try clear hb); (try clear hb2); (try clear hk); (try clear hi); obtain ⟨hcz128_0, hcz128_1, hfz128_0, hfz128_1⟩ := cz2 BK472.out))
                          go_ret
                          exact ⟨by first | rfl | (simp [errW_none, errW_some] <;> rfl) | (simp [*, errW_none, errW_some] <;> rfl), bU HB.out⟩
                         ·rw [if_neg c119] at H
                          have c119b0 : (((rd_T38 l0_2 x124_6).f0) == ((rd_T38 l0_2 x124_6).f1)) = false := beq_eq_false_iff_ne.mpr c119
                          have c119b1 : (((rd_T38 l0_2 x124_6).f0) != ((rd_T38 l0_2 x124_6).f1)) = true := bne_iff_ne.mpr c119
                          have H' := Aside0.mk H
                          clear H
                          have p471 : 0 ≤ (x124_6 : Int) := oD
                          have q471 : x124_6 < (l0_2.length : Int) := oD
                          obtain ⟨ad471, e471, hx471_0, hx471_1⟩ := at_T38 HR0_2.out x124_6 p471 q471
                          cases e471
                          replace hx471_0 := (HB.out.cell (World.block_lt_of_cell? w _ hx471_0)).trans hx471_0
                          replace hx471_1 := (HB.out.cell (World.block_lt_of_cell? w _ hx471_1)).trans hx471_1
                          replace p471 := eq_true p471
                          replace q471 := eq_true q471
                          go_wp2_with (first | ((with_reducible refine gate_dst (N := 13) rfl ?_); refine box_event ?hg (N := 13) ?hd (cs := #[.int .i64 0, .int .i64 0]) (t := 38) ?hr ?_; (case hd => rfl); (case hg => rfl); (case hr => first | (go_simp; done) | (go_simp; rfl)); intro gb472 hg w129 hbox hb; have n0_ := aM (blk_below (kU BK447.out) hb); have n1_ := aM (below_step (bU HB.out) hb); have n2_ := aM (hbox); have n3_ := aM ((by rw [hg]; exact (below_size (bU HB.out)) : w.heap.size ≤ gb472)); have n4_ := aM ((by rw [hg]; exact (below_size (bU HB.out)) : w.heap.size ≤ gb472)); have n5_ := aM ((by rw [hg]; exact Nat.ne_of_lt (blk_lt (kU BK447.out)) : gb447 ≠ gb472)); have n6_ := aM ((by rw [hg]; exact Nat.ne_of_gt (blk_lt (kU BK447.out)) : gb472 ≠ gb447)); clear BK447; clear HB; have BK447 := n0_; have HB := n1_; have BK472 := n2_; have GW472 := n3_; have GE472 := n4_; have NB447_472 := n5_; have NB472_447 := n6_; clear n0_ n1_ n2_ n3_ n4_ n5_ n6_; clear hb hbox hg; have hnb130 := NB472_447.out; have hnc130 := NB447_472.out; obtain ⟨hcz131_0, hcz131_1, hfz131_0, hfz131_1⟩ := cz2 BK472.out; obtain ⟨hcz132_0, hcz132_1, hcz132_2, hfz132_0, hfz132_1, hfz132_2⟩ := cz3 BK447.out) | ((with_reducible refine gate_callee (f := 21) rfl ?_); refine goesLq (some 131) rfl rfl Tryd.func21 #[.agg #[.slice A0_0 l0_0.length c0_0, .slice A0_1 l0_1.length c0_1, .slice (some ad471) l0_2.length c0_2], .int .i64 ((rd_T38 l0_2 x124_6).f0)] rfl ?_; (with_reducible refine (party_is.calls _ _ l0_0 _ _ l0_1 _ _ l0_2 ((rd_T38 l0_2 x124_6).f0) true _ ?side1 ?side2 ?side3 ?side4 ?side5 ?side6 A115.out).mono ?_); (case side1 => exact Kd.C_below HR0_0.out (bU HB.out)); (case side2 => exact HC0_0.out); (case side3 => exact Kd.C_below HR0_1.out (bU HB.out)); (case side4 => exact HC0_1.out); (case side5 => exact Kd.C_below HR0_2.out (bU HB.out)); (case side6 => exact HC0_2.out); rintro e w133 ⟨rfl, hb⟩; refine ⟨_, rfl, ?_⟩; have n0_ := aM (blk_below (g := gb447) (o := .cells #[.slice A0_0 l0_0.length c0_0, .slice A0_1 l0_1.length c0_1, .slice (some ad471) l0_2.length c0_2] 26 (0, 0)) (kP BK447.out) hb); have n1_ := aM (blk_below (g := gb472) (o := .cells #[.int .i64 ((rd_T38 l0_2 x124_6).f0), .int .i64 ((rd_T38 l0_2 x124_6).f1)] 38 (0, 0)) (kP BK472.out) hb); have n2_ := aM (below_step (bU HB.out) hb); clear BK447; clear BK472; clear HB; have BK447 := n0_; have BK472 := n1_; have HB := n2_; clear n0_ n1_ n2_; (try clear hb); (try clear hb2); (try clear hk); (try clear hi); obtain ⟨hcz134_0, hcz134_1, hcz134_2, hfz134_0, hfz134_1, hfz134_2⟩ := cz3 BK447.out; obtain ⟨hcz135_0, hcz135_1, hfz135_0, hfz135_1⟩ := cz2 BK472.out) | (go_at_call 21; (with_reducible refine (party_is.calls _ _ l0_0 _ _ l0_1 _ _ l0_2 ((rd_T38 l0_2 x124_6).f1) true _ ?side1 ?side2 ?side3 ?side4 ?side5 ?side6 A117.out).mono ?_); (case side1 => exact Kd.C_up (Kd.C_below HR0_0.out HB.out)); (case side2 => exact HC0_0.out); (case side3 => exact Kd.C_up (Kd.C_below HR0_1.out HB.out)); (case side4 => exact HC0_1.out); (case side5 => exact Kd.C_up (Kd.C_below HR0_2.out HB.out)); (case side6 => exact HC0_2.out); rintro e w136 ⟨rfl, hb⟩; have n0_ := aM (blk_below (kU BK447.out) hb); have n1_ := aM (blk_below (kU BK472.out) hb); have n2_ := aM (below_step (bU HB.out) hb); clear BK447; clear BK472; clear HB; have BK447 := n0_; have BK472 := n1_; have HB := n2_; clear n0_ n1_ n2_; (try clear hb); (try clear hb2); (try clear hk); (try clear hi); obtain ⟨hcz137_0, hcz137_1, hfz137_0, hfz137_1⟩ := cz2 BK472.out))
                          go_roundg k6
                          case measure => have := HJ1.out; have := HK2.out; have := HK3.out; have := HK4.out; have := HK5.out; have := HK6.out; omega
                          case rel => exact ⟨(wrap64 (x124_6 + 1)), (by first | rfl | (simp; done) | (simp [*]; done)), H', ⟨by have := HJ1.out; have := HK2.out; have := HK3.out; have := HK4.out; have := HK5.out; have := HK6.out; omega⟩, ⟨kU BK447.out⟩, ⟨bU HB.out⟩⟩
                        ·replace c118 := Bool.eq_false_iff.mpr c118
                         subst c118
                         have H1 : (some 14) = some r := by rw [if_neg (show ¬ (false = true) by decide)] at H; exact H
                         clear H
                         have H := H1
                         clear H1
                         obtain rfl := Option.some.inj H
                         have p471 : 0 ≤ (x124_6 : Int) := oD
                         have q471 : x124_6 < (l0_2.length : Int) := oD
                         obtain ⟨ad471, e471, hx471_0, hx471_1⟩ := at_T38 HR0_2.out x124_6 p471 q471
                         cases e471
                         replace hx471_0 := (HB.out.cell (World.block_lt_of_cell? w _ hx471_0)).trans hx471_0
                         replace hx471_1 := (HB.out.cell (World.block_lt_of_cell? w _ hx471_1)).trans hx471_1
                         replace p471 := eq_true p471
                         replace q471 := eq_true q471
                         go_wp2_with (first | ((with_reducible refine gate_dst (N := 13) rfl ?_); refine box_event ?hg (N := 13) ?hd (cs := #[.int .i64 0, .int .i64 0]) (t := 38) ?hr ?_; (case hd => rfl); (case hg => rfl); (case hr => first | (go_simp; done) | (go_simp; rfl)); intro gb472 hg w138 hbox hb; have n0_ := aM (blk_below (kU BK447.out) hb); have n1_ := aM (below_step (bU HB.out) hb); have n2_ := aM (hbox); have n3_ := aM ((by rw [hg]; exact (below_size (bU HB.out)) : w.heap.size ≤ gb472)); have n4_ := aM ((by rw [hg]; exact (below_size (bU HB.out)) : w.heap.size ≤ gb472)); have n5_ := aM ((by rw [hg]; exact Nat.ne_of_lt (blk_lt (kU BK447.out)) : gb447 ≠ gb472)); have n6_ := aM ((by rw [hg]; exact Nat.ne_of_gt (blk_lt (kU BK447.out)) : gb472 ≠ gb447)); clear BK447; clear HB; have BK447 := n0_; have HB := n1_; have BK472 := n2_; have GW472 := n3_; have GE472 := n4_; have NB447_472 := n5_; have NB472_447 := n6_; clear n0_ n1_ n2_ n3_ n4_ n5_ n6_; clear hb hbox hg; have hnb139 := NB472_447.out; have hnc139 := NB447_472.out; obtain ⟨hcz140_0, hcz140_1, hfz140_0, hfz140_1⟩ := cz2 BK472.out; obtain ⟨hcz141_0, hcz141_1, hcz141_2, hfz141_0, hfz141_1, hfz141_2⟩ := cz3 BK447.out) | ((with_reducible refine gate_callee (f := 21) rfl ?_); refine goesLq (some 131) rfl rfl Tryd.func21 #[.agg #[.slice A0_0 l0_0.length c0_0, .slice A0_1 l0_1.length c0_1, .slice (some ad471) l0_2.length c0_2], .int .i64 ((rd_T38 l0_2 x124_6).f0)] rfl ?_; (with_reducible refine (party_is.calls _ _ l0_0 _ _ l0_1 _ _ l0_2 ((rd_T38 l0_2 x124_6).f0) true _ ?side1 ?side2 ?side3 ?side4 ?side5 ?side6 A115.out).mono ?_); (case side1 => exact Kd.C_below HR0_0.out (bU HB.out)); (case side2 => exact HC0_0.out); (case side3 => exact Kd.C_below HR0_1.out (bU HB.out)); (case side4 => exact HC0_1.out); (case side5 => exact Kd.C_below HR0_2.out (bU HB.out)); (case side6 => exact HC0_2.out); rintro e w142 ⟨rfl, hb⟩; refine ⟨_, rfl, ?_⟩; have n0_ := aM (blk_below (g := gb447) (o := .cells #[.slice A0_0 l0_0.length c0_0, .slice A0_1 l0_1.length c0_1, .slice (some ad471) l0_2.length c0_2] 26 (0, 0)) (kP BK447.out) hb); have n1_ := aM (blk_below (g := gb472) (o := .cells #[.int .i64 ((rd_T38 l0_2 x124_6).f0), .int .i64 ((rd_T38 l0_2 x124_6).f1)] 38 (0, 0)) (kP BK472.out) hb); have n2_ := aM (below_step (bU HB.out) hb); clear BK447; clear BK472; clear HB; have BK447 := n0_; have BK472 := n1_; have HB := n2_; clear n0_ n1_ n2_; (try clear hb); (try clear hb2); (try clear hk); (try clear hi); obtain ⟨hcz143_0, hcz143_1, hcz143_2, hfz143_0, hfz143_1, hfz143_2⟩ := cz3 BK447.out; obtain ⟨hcz144_0, hcz144_1, hfz144_0, hfz144_1⟩ := cz2 BK472.out) | (go_at_call 21; (with_reducible refine (party_is.calls _ _ l0_0 _ _ l0_1 _ _ l0_2 ((rd_T38 l0_2 x124_6).f1) false _ ?side1 ?side2 ?side3 ?side4 ?side5 ?side6 A117.out).mono ?_); (case side1 => exact Kd.C_up (Kd.C_below HR0_0.out HB.out)); (case side2 => exact HC0_0.out); (case side3 => exact Kd.C_up (Kd.C_below HR0_1.out HB.out)); (case side4 => exact HC0_1.out); (case side5 => exact Kd.C_up (Kd.C_below HR0_2.out HB.out)); (case side6 => exact HC0_2.out); rintro e w145 ⟨rfl, hb⟩; have n0_ := aM (blk_below (kU BK447.out) hb); have n1_ := aM (blk_below (kU BK472.out) hb); have n2_ := aM (below_step (bU HB.out) hb); clear BK447; clear BK472; clear HB; have BK447 := n0_; have BK472 := n1_; have HB := n2_; clear n0_ n1_ n2_; (try clear hb); (try clear hb2); (try clear hk); (try clear hi)))
                         go_ret
                         exact ⟨by first | rfl | (simp [errW_none, errW_some] <;> rfl) | (simp [*, errW_none, errW_some] <;> rfl), bU HB.out⟩
                       ·replace c116 := Bool.eq_false_iff.mpr c116
                        subst c116
                        have H1 : (some 14) = some r := by rw [if_neg (show ¬ (false = true) by decide)] at H; exact H
                        clear H
                        have H := H1
                        clear H1
                        obtain rfl := Option.some.inj H
                        have p471 : 0 ≤ (x124_6 : Int) := oD
                        have q471 : x124_6 < (l0_2.length : Int) := oD
                        obtain ⟨ad471, e471, hx471_0, hx471_1⟩ := at_T38 HR0_2.out x124_6 p471 q471
                        cases e471
                        replace hx471_0 := (HB.out.cell (World.block_lt_of_cell? w _ hx471_0)).trans hx471_0
                        replace hx471_1 := (HB.out.cell (World.block_lt_of_cell? w _ hx471_1)).trans hx471_1
                        replace p471 := eq_true p471
                        replace q471 := eq_true q471
                        go_wp2_with (first | ((with_reducible refine gate_dst (N := 13) rfl ?_); refine box_event ?hg (N := 13) ?hd (cs := #[.int .i64 0, .int .i64 0]) (t := 38) ?hr ?_; (case hd => rfl); (case hg => rfl); (case hr => first | (go_simp; done) | (go_simp; rfl)); intro gb472 hg w146 hbox hb; have n0_ := aM (blk_below (kU BK447.out) hb); have n1_ := aM (below_step (bU HB.out) hb); have n2_ := aM (hbox); have n3_ := aM ((by rw [hg]; exact (below_size (bU HB.out)) : w.heap.size ≤ gb472)); have n4_ := aM ((by rw [hg]; exact (below_size (bU HB.out)) : w.heap.size ≤ gb472)); have n5_ := aM ((by rw [hg]; exact Nat.ne_of_lt (blk_lt (kU BK447.out)) : gb447 ≠ gb472)); have n6_ := aM ((by rw [hg]; exact Nat.ne_of_gt (blk_lt (kU BK447.out)) : gb472 ≠ gb447)); clear BK447; clear HB; have BK447 := n0_; have HB := n1_; have BK472 := n2_; have GW472 := n3_; have GE472 := n4_; have NB447_472 := n5_; have NB472_447 := n6_; clear n0_ n1_ n2_ n3_ n4_ n5_ n6_; clear hb hbox hg; have hnb147 := NB472_447.out; have hnc147 := NB447_472.out; obtain ⟨hcz148_0, hcz148_1, hfz148_0, hfz148_1⟩ := cz2 BK472.out; obtain ⟨hcz149_0, hcz149_1, hcz149_2, hfz149_0, hfz149_1, hfz149_2⟩ := cz3 BK447.out) | ((with_reducible refine gate_callee (f := 21) rfl ?_); refine goesLq (some 131) rfl rfl Tryd.func21 #[.agg #[.slice A0_0 l0_0.length c0_0, .slice A0_1 l0_1.length c0_1, .slice (some ad471) l0_2.length c0_2], .int .i64 ((rd_T38 l0_2 x124_6).f0)] rfl ?_; (with_reducible refine (party_is.calls _ _ l0_0 _ _ l0_1 _ _ l0_2 ((rd_T38 l0_2 x124_6).f0) false _ ?side1 ?side2 ?side3 ?side4 ?side5 ?side6 A115.out).mono ?_); (case side1 => exact Kd.C_below HR0_0.out (bU HB.out)); (case side2 => exact HC0_0.out); (case side3 => exact Kd.C_below HR0_1.out (bU HB.out)); (case side4 => exact HC0_1.out); (case side5 => exact Kd.C_below HR0_2.out (bU HB.out)); (case side6 => exact HC0_2.out); rintro e w150 ⟨rfl, hb⟩; refine ⟨_, rfl, ?_⟩; have n0_ := aM (blk_below (g := gb447) (o := .cells #[.slice A0_0 l0_0.length c0_0, .slice A0_1 l0_1.length c0_1, .slice (some ad471) l0_2.length c0_2] 26 (0, 0)) (kP BK447.out) hb); have n1_ := aM (blk_below (g := gb472) (o := .cells #[.int .i64 ((rd_T38 l0_2 x124_6).f0), .int .i64 ((rd_T38 l0_2 x124_6).f1)] 38 (0, 0)) (kP BK472.out) hb); have n2_ := aM (below_step (bU HB.out) hb); clear BK447; clear BK472; clear HB; have BK447 := n0_; have BK472 := n1_; have HB := n2_; clear n0_ n1_ n2_; (try clear hb); (try clear hb2); (try clear hk); (try clear hi)))
                        go_ret
                        exact ⟨by first | rfl | (simp [errW_none, errW_some] <;> rfl) | (simp [*, errW_none, errW_some] <;> rfl), bU HB.out⟩
                      ·rw [if_neg c114] at H
                       exact absurd H (by simp)
                     ·rw [if_neg c113] at H
                      exact absurd H (by simp)
                    ·rw [if_neg c112] at H
                     have c112b0 := decide_eq_false c112
                     clear c112
                     obtain rfl := Option.some.inj H
                     go_wp2
                     go_ret
                     exact ⟨by first | rfl | (simp [errW_none, errW_some] <;> rfl) | (simp [*, errW_none, errW_some] <;> rfl), bU HB.out⟩
           ·rw [if_neg c70] at H
            exact absurd H (by simp)
          ·rw [if_neg c69] at H
           exact absurd H (by simp)

end Go.Proofs.YtjeamaahhpbbkaaDoor.PAll
