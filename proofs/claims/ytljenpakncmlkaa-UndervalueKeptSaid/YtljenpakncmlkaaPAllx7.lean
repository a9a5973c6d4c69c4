-- PRINTED by a session's own changed print
import Derived.Test.YtljenpakncmlkaaPAllx0
import Derived.Test.YtljenpakncmlkaaPAllx6
namespace Go.Proofs.Ytljenpakncmlkaa.PAll
open Go.RowKit Go.Proofs.YtljenpakncmlkaaW.PrintWords Go.Proofs.YtljenpakncmlkaaW.PrintLast Go.Proofs.YtljenpakncmlkaaW.PrintMore
attribute [local go_sem] max2_int min2_int max_two min_two max_three min_three max_four min_four   -- for this text's walks alone
set_option linter.unusedVariables false
set_option linter.unusedSimpArgs false

/-! ### insolvencyref25_Trace: function 17 -/
mutual
def insolvencyref25_Trace.l0 : Nat → List (S36) → Int → List Int → List Int → Int → Int → Option (List Int × Int × Int)
  | 0, _, _, _, _, _, _ => none
  | k + 1, x0, x2, x10, x11, x12, x13 => if x13 < (x0.length : Int) then (if 0 ≤ x13 then (if ((rd_T36 x0 x13).f1) = 3 then (insolvencyref25_Trace.j1 k x0 x2 x10 x11 x12 x13 ((rd_T36 x0 x13).f3) ((rd_T36 x0 x13).f2) ((rd_T36 x0 x13).f0) ((rd_T36 x0 x13).f1) ((rd_T36 x0 x13).f2) ((rd_T36 x0 x13).f3) ((rd_T36 x0 x13).f4) ((rd_T36 x0 x13).f5)) else (insolvencyref25_Trace.j1 k x0 x2 x10 x11 x12 x13 ((rd_T36 x0 x13).f2) ((rd_T36 x0 x13).f3) ((rd_T36 x0 x13).f0) ((rd_T36 x0 x13).f1) ((rd_T36 x0 x13).f2) ((rd_T36 x0 x13).f3) ((rd_T36 x0 x13).f4) ((rd_T36 x0 x13).f5))) else (none)) else (some (x11, x12, 0))
def insolvencyref25_Trace.j1 : Nat → List (S36) → Int → List Int → List Int → Int → Int → Int → Int → Int → Int → Int → Int → Int → Int → Option (List Int × Int × Int)
  | 0, _, _, _, _, _, _, _, _, _, _, _, _, _, _ => none
  | k + 1, x0, x2, x10, x11, x12, x13, x15, x16, x155000, x155001, x155002, x155003, x155004, x155005 => if x155001 = 2 then (insolvencyref25_Trace.l0 k x0 x2 x10 x11 x12 (wrap64 (x13 + 1))) else (if x13 = x2 then (if 0 ≤ x16 then (if x16 < (x11.length : Int) then (insolvencyref25_Trace.j2 k x0 x2 x10 (x11.set (x16 : Int).toNat x155004) x12 x13 x15 x16 x155000 x155001 x155002 x155003 x155004 x155005) else (none)) else (none)) else (if 0 ≤ x15 then (if x15 < (x10.length : Int) then (if x15 < (x11.length : Int) then ((some (x11.set (x15 : Int).toNat (wrap64 ((rd x11 x15) - (mn (mx (wrap64 (x155004 - (wrap64 ((mx (rd x10 x15) 0) - (rd x11 x15))))) 0) (rd x11 x15)))) : List Int)).bind fun y160 => (if x155001 = 1 then (if 0 ≤ x16 then (if x16 < (x11.length : Int) then (insolvencyref25_Trace.j2 k x0 x2 x10 (y160.set (x16 : Int).toNat (wrap64 ((rd y160 x16) + (mn (mx (wrap64 (x155004 - (wrap64 ((mx (rd x10 x15) 0) - (rd x11 x15))))) 0) (rd x11 x15))))) x12 x13 x15 x16 x155000 x155001 x155002 x155003 x155004 x155005) else (none)) else (none)) else (insolvencyref25_Trace.j2 k x0 x2 x10 y160 (wrap64 (x12 + (mn (mx (wrap64 (x155004 - (wrap64 ((mx (rd x10 x15) 0) - (rd x11 x15))))) 0) (rd x11 x15)))) x13 x15 x16 x155000 x155001 x155002 x155003 x155004 x155005))) else (none)) else (none)) else (none)))
def insolvencyref25_Trace.j2 : Nat → List (S36) → Int → List Int → List Int → Int → Int → Int → Int → Int → Int → Int → Int → Int → Int → Option (List Int × Int × Int)
  | 0, _, _, _, _, _, _, _, _, _, _, _, _, _, _ => none
  | k + 1, x0, x2, x10, x11, x12, x13, x15, x16, x155000, x155001, x155002, x155003, x155004, x155005 => if 0 ≤ x15 then (if x15 < (x10.length : Int) then ((some (x10.set (x15 : Int).toNat (wrap64 ((rd x10 x15) - x155004)) : List Int)).bind fun y164 => (if 0 ≤ x16 then (if x16 < (x10.length : Int) then (insolvencyref25_Trace.l1 k x0 x2 (y164.set (x16 : Int).toNat (wrap64 ((rd y164 x16) + x155004))) x11 x12 x13 0) else (none)) else (none))) else (none)) else (none)
def insolvencyref25_Trace.l1 : Nat → List (S36) → Int → List Int → List Int → Int → Int → Int → Option (List Int × Int × Int)
  | 0, _, _, _, _, _, _, _ => none
  | k + 1, x0, x2, x10, x11, x12, x13, x19 => if x19 < (x11.length : Int) then (if 0 ≤ x19 then (if x19 < (x10.length : Int) then (insolvencyref25_Trace.l1 k x0 x2 x10 (x11.set (x19 : Int).toNat (wrap64 ((rd x11 x19) - (mx (wrap64 ((rd x11 x19) - (mx (rd x10 x19) 0))) 0)))) (wrap64 (x12 + (mx (wrap64 ((rd x11 x19) - (mx (rd x10 x19) 0))) 0))) x13 (wrap64 (x19 + 1))) else (none)) else (none)) else (insolvencyref25_Trace.l0 k x0 x2 x10 x11 x12 (wrap64 (x13 + 1)))
end
def insolvencyref25_Trace.f (k : Nat) (l0 : List (S36)) (l1 : List Int) (a2 : Int) : Option (List Int × Int × Int) := (insolvencyref25_CheckTrace.f k l0 l1 a2).bind fun t143 => (if t143 = 0 then ((some (([] : List Int) : List Int)).bind fun y144 => (if y144.length + l1.length < 17592186044416 then (if 0 ≤ (l1.length : Int) then (if ((l1.length : Int) : Int).toNat ≤ 35184372088832 then (insolvencyref25_Trace.l0 k l0 a2 (y144 ++ l1) (List.replicate ((l1.length : Int) : Int).toNat 0) 0 0) else (none)) else (none)) else (none))) else (some (([] : List Int), 0, t143)))
theorem insolvencyref25_Trace.mono_l : ∀ k, (∀ y0 y1 y2 y3 y4 y5, LeO (insolvencyref25_Trace.l0 k y0 y1 y2 y3 y4 y5) (insolvencyref25_Trace.l0 (k + 1) y0 y1 y2 y3 y4 y5)) ∧ (∀ y0 y1 y2 y3 y4 y5 y6 y7 y8 y9 y10 y11 y12 y13, LeO (insolvencyref25_Trace.j1 k y0 y1 y2 y3 y4 y5 y6 y7 y8 y9 y10 y11 y12 y13) (insolvencyref25_Trace.j1 (k + 1) y0 y1 y2 y3 y4 y5 y6 y7 y8 y9 y10 y11 y12 y13)) ∧ (∀ y0 y1 y2 y3 y4 y5 y6 y7 y8 y9 y10 y11 y12 y13, LeO (insolvencyref25_Trace.j2 k y0 y1 y2 y3 y4 y5 y6 y7 y8 y9 y10 y11 y12 y13) (insolvencyref25_Trace.j2 (k + 1) y0 y1 y2 y3 y4 y5 y6 y7 y8 y9 y10 y11 y12 y13)) ∧ (∀ y0 y1 y2 y3 y4 y5 y6, LeO (insolvencyref25_Trace.l1 k y0 y1 y2 y3 y4 y5 y6) (insolvencyref25_Trace.l1 (k + 1) y0 y1 y2 y3 y4 y5 y6))
  | 0 => ⟨fun _ _ _ _ _ _ r h => by simp [insolvencyref25_Trace.l0] at h, fun _ _ _ _ _ _ _ _ _ _ _ _ _ _ r h => by simp [insolvencyref25_Trace.j1] at h, fun _ _ _ _ _ _ _ _ _ _ _ _ _ _ r h => by simp [insolvencyref25_Trace.j2] at h, fun _ _ _ _ _ _ _ r h => by simp [insolvencyref25_Trace.l1] at h⟩
  | k + 1 => by
    obtain ⟨ih0, ih1, ih2, ih3⟩ := insolvencyref25_Trace.mono_l k
    refine ⟨?_, ?_, ?_, ?_⟩
    · intro y0 y1 y2 y3 y4 y5
      unfold insolvencyref25_Trace.l0
      repeat' first
      | (with_reducible exact ih0 _ _ _ _ _ _)
      | (with_reducible exact ih1 _ _ _ _ _ _ _ _ _ _ _ _ _ _)
      | (with_reducible exact ih2 _ _ _ _ _ _ _ _ _ _ _ _ _ _)
      | (with_reducible exact ih3 _ _ _ _ _ _ _)
      | (with_reducible exact insolvencyref25_CheckTrace.mono _ _ _ _)
      | (with_reducible exact LeO.refl _)
      | (with_reducible exact LeO.none _)
      | (with_reducible refine LeO.ite ?_ ?_)
      | (with_reducible refine LeO.bind ?_ (fun _ => ?_))
      | exact ih0 _ _ _ _ _ _
      | exact ih1 _ _ _ _ _ _ _ _ _ _ _ _ _ _
      | exact ih2 _ _ _ _ _ _ _ _ _ _ _ _ _ _
      | exact ih3 _ _ _ _ _ _ _
      | exact insolvencyref25_CheckTrace.mono _ _ _ _
      | exact LeO.none _
      | refine LeO.ite ?_ ?_
      | refine LeO.bind ?_ (fun _ => ?_)
    · intro y0 y1 y2 y3 y4 y5 y6 y7 y8 y9 y10 y11 y12 y13
      unfold insolvencyref25_Trace.j1
      repeat' first
      | (with_reducible exact ih0 _ _ _ _ _ _)
      | (with_reducible exact ih1 _ _ _ _ _ _ _ _ _ _ _ _ _ _)
      | (with_reducible exact ih2 _ _ _ _ _ _ _ _ _ _ _ _ _ _)
      | (with_reducible exact ih3 _ _ _ _ _ _ _)
      | (with_reducible exact insolvencyref25_CheckTrace.mono _ _ _ _)
      | (with_reducible exact LeO.refl _)
      | (with_reducible exact LeO.none _)
      | (with_reducible refine LeO.ite ?_ ?_)
      | (with_reducible refine LeO.bind ?_ (fun _ => ?_))
      | exact ih0 _ _ _ _ _ _
      | exact ih1 _ _ _ _ _ _ _ _ _ _ _ _ _ _
      | exact ih2 _ _ _ _ _ _ _ _ _ _ _ _ _ _
      | exact ih3 _ _ _ _ _ _ _
      | exact insolvencyref25_CheckTrace.mono _ _ _ _
      | exact LeO.none _
      | refine LeO.ite ?_ ?_
      | refine LeO.bind ?_ (fun _ => ?_)
    · intro y0 y1 y2 y3 y4 y5 y6 y7 y8 y9 y10 y11 y12 y13
      unfold insolvencyref25_Trace.j2
      repeat' first
      | (with_reducible exact ih0 _ _ _ _ _ _)
      | (with_reducible exact ih1 _ _ _ _ _ _ _ _ _ _ _ _ _ _)
      | (with_reducible exact ih2 _ _ _ _ _ _ _ _ _ _ _ _ _ _)
      | (with_reducible exact ih3 _ _ _ _ _ _ _)
      | (with_reducible exact insolvencyref25_CheckTrace.mono _ _ _ _)
      | (with_reducible exact LeO.refl _)
      | (with_reducible exact LeO.none _)
      | (with_reducible refine LeO.ite ?_ ?_)
      | (with_reducible refine LeO.bind ?_ (fun _ => ?_))
      | exact ih0 _ _ _ _ _ _
      | exact ih1 _ _ _ _ _ _ _ _ _ _ _ _ _ _
      | exact ih2 _ _ _ _ _ _ _ _ _ _ _ _ _ _
      | exact ih3 _ _ _ _ _ _ _
      | exact insolvencyref25_CheckTrace.mono _ _ _ _
      | exact LeO.none _
      | refine LeO.ite ?_ ?_
      | refine LeO.bind ?_ (fun _ => ?_)
    · intro y0 y1 y2 y3 y4 y5 y6
      unfold insolvencyref25_Trace.l1
      repeat' first
      | (with_reducible exact ih0 _ _ _ _ _ _)
      | (with_reducible exact ih1 _ _ _ _ _ _ _ _ _ _ _ _ _ _)
      | (with_reducible exact ih2 _ _ _ _ _ _ _ _ _ _ _ _ _ _)
      | (with_reducible exact ih3 _ _ _ _ _ _ _)
      | (with_reducible exact insolvencyref25_CheckTrace.mono _ _ _ _)
      | (with_reducible exact LeO.refl _)
      | (with_reducible exact LeO.none _)
      | (with_reducible refine LeO.ite ?_ ?_)
      | (with_reducible refine LeO.bind ?_ (fun _ => ?_))
      | exact ih0 _ _ _ _ _ _
      | exact ih1 _ _ _ _ _ _ _ _ _ _ _ _ _ _
      | exact ih2 _ _ _ _ _ _ _ _ _ _ _ _ _ _
      | exact ih3 _ _ _ _ _ _ _
      | exact insolvencyref25_CheckTrace.mono _ _ _ _
      | exact LeO.none _
      | refine LeO.ite ?_ ?_
      | refine LeO.bind ?_ (fun _ => ?_)
theorem insolvencyref25_Trace.mono : ∀ a0 a1 a2 k, LeO (insolvencyref25_Trace.f k a0 a1 a2) (insolvencyref25_Trace.f (k + 1) a0 a1 a2) := by
  intro a0 a1 a2 k
  obtain ⟨ih0, ih1, ih2, ih3⟩ := insolvencyref25_Trace.mono_l k
  unfold insolvencyref25_Trace.f
  repeat' first
      | (with_reducible exact ih0 _ _ _ _ _ _)
      | (with_reducible exact ih1 _ _ _ _ _ _ _ _ _ _ _ _ _ _)
      | (with_reducible exact ih2 _ _ _ _ _ _ _ _ _ _ _ _ _ _)
      | (with_reducible exact ih3 _ _ _ _ _ _ _)
      | (with_reducible exact insolvencyref25_CheckTrace.mono _ _ _ _)
      | (with_reducible exact LeO.refl _)
      | (with_reducible exact LeO.none _)
      | (with_reducible refine LeO.ite ?_ ?_)
      | (with_reducible refine LeO.bind ?_ (fun _ => ?_))
      | exact ih0 _ _ _ _ _ _
      | exact ih1 _ _ _ _ _ _ _ _ _ _ _ _ _ _
      | exact ih2 _ _ _ _ _ _ _ _ _ _ _ _ _ _
      | exact ih3 _ _ _ _ _ _ _
      | exact insolvencyref25_CheckTrace.mono _ _ _ _
      | exact LeO.none _
      | refine LeO.ite ?_ ?_
      | refine LeO.bind ?_ (fun _ => ?_)
def insolvencyref25_Trace.T18 : Bool × List (List Nat × List Nat) := (true, [([], []), ([], []), ([0, 1], [0, 1]), ([2], [2]), ([3], [3]), ([], []), ([], []), ([5, 6], [5, 6]), ([7], [7]), ([4, 8], [4, 8]), ([9, 0, 1, 2, 3, 4, 5, 6, 7, 8, 9], [9])])
def insolvencyref25_Trace.B18 : List Nat := [0, 0, 3, 7, 15, 0, 0, 96, 224, 511, 1023]
theorem insolvencyref25_Trace.tab18 : rtab .any (opsOf Try.f17 18) = insolvencyref25_Trace.T18 := by kernel_rfl
theorem insolvencyref25_Trace.bits18 : waitsOk insolvencyref25_Trace.T18.2 insolvencyref25_Trace.B18 = true := by kernel_rfl
def insolvencyref25_Trace.T19 : Bool × List (List Nat × List Nat) := (true, [([], []), ([0], [0]), ([], []), ([1, 2], [1, 2]), ([3], [3]), ([], []), ([], []), ([5, 6], [5, 6]), ([7], [7]), ([4, 8], [4, 8]), ([9, 0, 1, 2, 3, 4, 5, 6, 7, 8, 9], [9])])
def insolvencyref25_Trace.B19 : List Nat := [0, 1, 0, 7, 15, 0, 0, 96, 224, 511, 1023]
theorem insolvencyref25_Trace.tab19 : rtab .any (opsOf Try.f17 19) = insolvencyref25_Trace.T19 := by kernel_rfl
theorem insolvencyref25_Trace.bits19 : waitsOk insolvencyref25_Trace.T19.2 insolvencyref25_Trace.B19 = true := by kernel_rfl
def insolvencyref25_Trace.T24 : Bool × List (List Nat × List Nat) := (true, [([], []), ([], []), ([], []), ([], []), ([2, 3], [2, 3]), ([4], [4]), ([], []), ([6], [6]), ([5, 7], [5, 7]), ([0, 1, 0, 1, 2, 3, 4, 5, 6, 7, 8], [0, 1]), ([9, 8, 0, 1, 2, 3, 4, 5, 6, 7, 8], [8, 9])])
def insolvencyref25_Trace.B24 : List Nat := [0, 0, 0, 0, 12, 28, 0, 64, 252, 511, 1023]
theorem insolvencyref25_Trace.tab24 : rtab .any (opsOf Try.f17 24) = insolvencyref25_Trace.T24 := by kernel_rfl
theorem insolvencyref25_Trace.bits24 : waitsOk insolvencyref25_Trace.T24.2 insolvencyref25_Trace.B24 = true := by kernel_rfl
def insolvencyref25_Trace.T25 : Bool × List (List Nat × List Nat) := (true, [([], []), ([], []), ([], []), ([], []), ([2, 3], [2, 3]), ([4], [4]), ([], []), ([6], [6]), ([5, 7], [5, 7]), ([0, 1, 0, 1, 2, 3, 4, 5, 6, 7, 8], [0, 1]), ([9, 8, 0, 1, 2, 3, 4, 5, 6, 7, 8], [8, 9])])
def insolvencyref25_Trace.B25 : List Nat := [0, 0, 0, 0, 12, 28, 0, 64, 252, 511, 1023]
theorem insolvencyref25_Trace.tab25 : rtab .any (opsOf Try.f17 25) = insolvencyref25_Trace.T25 := by kernel_rfl
theorem insolvencyref25_Trace.bits25 : waitsOk insolvencyref25_Trace.T25.2 insolvencyref25_Trace.B25 = true := by kernel_rfl
def insolvencyref25_Trace.T29 : Bool × List (List Nat × List Nat) := (true, [([], []), ([], []), ([0, 1], [0, 1]), ([2], [2]), ([], []), ([], []), ([4, 5], [4, 5]), ([6], [6]), ([7], [7]), ([3, 8], [3, 8]), ([9], [9]), ([10, 0, 1, 2, 3, 4, 5, 6, 7, 8, 9, 10], [10])])
def insolvencyref25_Trace.B29 : List Nat := [0, 0, 3, 7, 0, 0, 48, 112, 240, 511, 1023, 2047]
theorem insolvencyref25_Trace.tab29 : rtab .any (opsOf Try.f17 29) = insolvencyref25_Trace.T29 := by kernel_rfl
theorem insolvencyref25_Trace.bits29 : waitsOk insolvencyref25_Trace.T29.2 insolvencyref25_Trace.B29 = true := by kernel_rfl
set_option maxHeartbeats 8000000 in
set_option maxRecDepth 100000 in
theorem insolvencyref25_Trace.calls (k : Nat) (A0 : Option Addr) (c0 : Nat) (l0 : List (S36)) (A1 : Option Addr) (c1 : Nat) (l1 : List Int) (a2 : Int) (r1 : List Int) (r2 : Int) (r3 : Int) (w : World) (hr0 : Kd.C k36 w A0 l0.length l0) (hc0 : l0.length ≤ c0) (hr1 : Kd.C (Kd.int .i64) w A1 l1.length l1) (hc1 : l1.length ≤ c1) (h : insolvencyref25_Trace.f k l0 l1 a2 = some (r1, r2, r3)) :
    Calls Try.prog 17 #[.slice A0 l0.length c0, .slice A1 l1.length c1, .int .i64 a2] w fun e w' => ∃ v0_ : Value, e = .returned (.tuple #[v0_, .int .i64 r2, .int .i64 r3]) ∧ Kd.R (Kd.int .i64) 2 w' w.heap.size (fun _ => True) v0_ r1 ∧ Below w.heap.size w w' := by
  have hu36 := Try.underlying36
  have HR0 := Aside0.mk hr0
  have HC0 := Aside0.mk hc0
  clear hr0 hc0
  have HR1 := Aside0.mk hr1
  have HC1 := Aside0.mk hc1
  clear hr1 hc1
  have HB := Aside0.mk (Below.refl w.heap.size w)
  have H : ((insolvencyref25_CheckTrace.f k l0 l1 a2).bind fun t143 => (if t143 = 0 then ((some (([] : List Int) : List Int)).bind fun y144 => (if y144.length + l1.length < 17592186044416 then (if 0 ≤ (l1.length : Int) then (if ((l1.length : Int) : Int).toNat ≤ 35184372088832 then (insolvencyref25_Trace.l0 k l0 a2 (y144 ++ l1) (List.replicate ((l1.length : Int) : Int).toNat 0) 0 0) else (none)) else (none)) else (none))) else (some (([] : List Int), 0, t143)))) = some (r1, r2, r3) := h
  clear h
  replace H := Option.bind_eq_some_iff.mp H
  obtain ⟨t143, A40, H⟩ := H
  replace H : (if t143 = 0 then ((some (([] : List Int) : List Int)).bind fun y144 => (if y144.length + l1.length < 17592186044416 then (if 0 ≤ (l1.length : Int) then (if ((l1.length : Int) : Int).toNat ≤ 35184372088832 then (insolvencyref25_Trace.l0 k l0 a2 (y144 ++ l1) (List.replicate ((l1.length : Int) : Int).toNat 0) 0 0) else (none)) else (none)) else (none))) else (some (([] : List Int), 0, t143))) = some (r1, r2, r3) := H
  have A4 := Aside0.mk A40
  clear A40
  by_cases c5 : t143 = 0
  · rw [if_pos c5] at H
    have c5b0 : (t143 == 0) = true := beq_iff_eq.mpr c5
    have c5b1 : (t143 != 0) = false := bne_eq_false_iff_eq.mpr c5
    clear c5
    obtain ⟨y144, hy144⟩ : ∃ y_ : List Int, y_ = (([] : List Int)) := ⟨_, rfl⟩
    replace H : (if y144.length + l1.length < 17592186044416 then (if 0 ≤ (l1.length : Int) then (if ((l1.length : Int) : Int).toNat ≤ 35184372088832 then (insolvencyref25_Trace.l0 k l0 a2 (y144 ++ l1) (List.replicate ((l1.length : Int) : Int).toNat 0) 0 0) else (none)) else (none)) else (none)) = some (r1, r2, r3) := by first | (rw [hy144]; with_reducible exact H) | (have H2_ := (Option.bind_some _ _).symm.trans H; rw [hy144]; with_reducible exact H2_) | (have H2_ := (Option.bind_some _ _).symm.trans H; with_reducible exact H2_) | with_reducible exact H | (rw [hy144]; exact H) | exact H
    have Ny144 := Aside0.mk hy144
    clear hy144
    by_cases c6 : y144.length + l1.length < 17592186044416
    · rw [if_pos c6] at H
      have LMc6 := Aside0.mk c6
      clear c6
      obtain ⟨y147, hy147⟩ : ∃ y_ : List Int, y_ = (y144 ++ l1) := ⟨_, rfl⟩
      replace H : (if 0 ≤ (l1.length : Int) then (if ((l1.length : Int) : Int).toNat ≤ 35184372088832 then (insolvencyref25_Trace.l0 k l0 a2 y147 (List.replicate ((l1.length : Int) : Int).toNat 0) 0 0) else (none)) else (none)) = some (r1, r2, r3) := by first | (rw [hy147]; with_reducible exact H) | (have H2_ := (Option.bind_some _ _).symm.trans H; rw [hy147]; with_reducible exact H2_) | (have H2_ := (Option.bind_some _ _).symm.trans H; with_reducible exact H2_) | with_reducible exact H | (rw [hy147]; exact H) | exact H
      have Ny147 := Aside0.mk hy147
      clear hy147
      by_cases c7 : 0 ≤ (l1.length : Int)
      · rw [if_pos c7] at H
        have c7b0 := eq_true c7
        have c7b1 : decide (0 ≤ (l1.length : Int)) = true := decide_eq_true c7
        clear c7
        by_cases c8 : ((l1.length : Int) : Int).toNat ≤ 35184372088832
        · rw [if_pos c8] at H
          have c8b0 := eq_true c8
          have c8b1 : decide (((l1.length : Int) : Int).toNat ≤ 35184372088832) = true := decide_eq_true c8
          clear c8
          obtain ⟨y150, hy150⟩ : ∃ y_ : List Int, y_ = (List.replicate ((l1.length : Int) : Int).toNat 0) := ⟨_, rfl⟩
          replace H : (insolvencyref25_Trace.l0 k l0 a2 y147 y150 0 0) = some (r1, r2, r3) := by first | (rw [hy150]; with_reducible exact H) | (have H2_ := (Option.bind_some _ _).symm.trans H; rw [hy150]; with_reducible exact H2_) | (have H2_ := (Option.bind_some _ _).symm.trans H; with_reducible exact H2_) | with_reducible exact H | (rw [hy150]; exact H) | exact H
          have Ny150 := Aside0.mk hy150
          clear hy150
          have H' := Aside0.mk H
          clear H
          go_enter Try.func17, Try.ntmps17
          go_wp2_with (first | ((with_reducible refine gate_callee (f := 26) rfl ?_); refine goesL_ (some 24) rfl rfl Try.func26 (by kernel_rfl) rfl #[.slice A0 l0.length c0, .slice A1 l1.length c1, .int .i64 a2] rfl (by (try simp only [List.map_toArray, List.map_cons, List.map_nil]); first | done | rfl | (simp only [List.length_drop, List.length_take]; rfl)) ?_; (with_reducible refine (insolvencyref25_CheckTrace.calls k _ _ l0 _ _ l1 a2 t143 _ ?side1 ?side2 ?side3 ?side4 A4.out).mono ?_); (case side1 => repeat (first | exact HR0.out | (with_reducible refine Kd.C_alloc ?_ _) | (with_reducible refine Kd.C_drewN ?_ _) | (with_reducible refine Kd.C_drew ?_))); (case side2 => exact HC0.out); (case side3 => repeat (first | exact HR1.out | (with_reducible refine Kd.C_alloc ?_ _) | (with_reducible refine Kd.C_drewN ?_ _) | (with_reducible refine Kd.C_drew ?_))); (case side4 => exact HC1.out); rintro e w9 ⟨rfl, hb⟩; refine ⟨_, rfl, ?_⟩; have n0_ := Aside0.mk (below_step (by repeat (first | (with_reducible first | exact HB.out | apply below_alloc | apply pw_below_drewN | apply below_drew1) | exact HB.out)) hb); clear HB; have HB := n0_; clear n0_; (try clear hb); (try clear hb2); (try clear hk); (try clear hi)) | ((with_reducible refine gate_dst (N := 28) rfl ?_); refine Kd.R_lit (Kd.int .i64) _ 2 ?hg (N := 28) ?hd (xs := ([] : List Int)) (inner := []) (ok := fun _ => True) (okp := fun _ => True) ?hr ?hp (fun _ hk => hk) trivial (Below.refl _ _) (Nat.le_refl _) (by simp) ?_; (case hd => rfl); (case hg => rfl); (case hr => first | (go_simp; done) | (go_simp; rfl)); (case hp => exact (Reps.none _ _)); intro v145 w10 ho11 hb hg_ hnew_; clear hg_ hnew_; (first | rw [← Ny144.out] at ho11 | (simp only [Int.reduceToNat] at ho11; rw [← Ny144.out] at ho11)); have n0_ := Aside0.mk (Kd.R_lower ho11 (below_size (by repeat (first | (with_reducible first | exact HB.out | apply below_alloc | apply pw_below_drewN | apply below_drew1) | exact HB.out)))); have n1_ := Aside0.mk (below_step (by repeat (first | (with_reducible first | exact HB.out | apply below_alloc | apply pw_below_drewN | apply below_drew1) | exact HB.out)) hb); clear HB; have HO146 := n0_; have HB := n1_; clear n0_ n1_; clear hb ho11) | ((with_reducible refine gate_builtin (b := .append) (xs := #[.tmp 28, .tmp 29]) rfl ?_); at_builtin; refine Kd.R_append_rows (Kd.int .i64) (w0 := w) w.heap.size rfl (.tmp 28) (.tmp 29) 25 2 (.int .i64 0) 8 rfl Try.underlying25 info2 rfl (by decide) (by omega) v145 y144 l1 _ _ _ (fun _ => True) (fun _ => False) rfl rfl ?aO ?aR (fun _ _ h => h) (fun _ h => h.elim) ?aF ?aB ?aS ?aL ?_; (case aR => repeat (first | exact (Kd.C_below HR1.out HB.out) | (with_reducible refine Kd.C_alloc ?_ _) | (with_reducible refine Kd.C_drewN ?_ _) | (with_reducible refine Kd.C_drew ?_))); (case aB => exact (by repeat (first | (with_reducible first | exact HB.out | apply below_alloc | apply pw_below_drewN | apply below_drew1) | exact HB.out))); (case aF => exact (fun _ _ => trivial)); (case aO => exact (by (with_reducible repeat (first | apply Kd.R_alloc | apply Kd.R_drewN | apply Kd.R_drew)); exact HO146.out)); (case aS => exact (below_size (by repeat (first | (with_reducible first | exact HB.out | apply below_alloc | apply pw_below_drewN | apply below_drew1) | exact HB.out)))); (case aL => have := LMc6.out; omega); intro v148 w12 ho hb hg hat; rw [← Ny147.out] at ho; have n0_ := Aside0.mk (hb); have n1_ := Aside0.mk (ho); clear HB; clear HO146; have HB := n0_; have HO149 := n1_; clear n0_ n1_; clear ho hb hg hat) | ((with_reducible refine gate_dst (N := 33) rfl ?_); refine Kd.R_make (Kd.int .i64) _ 2 rfl (N := 33) rfl 25 _ _ rfl (l1.length : Int) rfl rfl Try.underlying25 (.int .i64 0) 8 info2 rfl (by decide) (by omega) 0 (ok := fun _ => True) (okp := fun _ => True) rfl (fun _ hk => hk) trivial (of_decide_eq_true (by first | (with_reducible assumption) | assumption)) (Nat.le_trans (Nat.mul_le_mul_right _ (of_decide_eq_true (by first | (with_reducible assumption) | assumption) : (l1.length : Int).toNat ≤ 35184372088832)) (by omega)) (Below.refl _ _) (Nat.le_refl _) ?_; intro v151 w13 ho14 hb hg_ hnew_; clear hg_ hnew_; (first | rw [← Ny150.out] at ho14 | (simp only [Int.reduceToNat] at ho14; rw [← Ny150.out] at ho14)); have n0_ := Aside0.mk (Kd.R_elder' (by (with_reducible repeat (first | apply Kd.R_alloc | apply Kd.R_drewN | apply Kd.R_drew)); exact HO149.out) (Kd.R_base ho14) hb); have n1_ := Aside0.mk (Kd.R_lower (Kd.R_new' ho14 (Kd.R_lt (by (with_reducible repeat (first | apply Kd.R_alloc | apply Kd.R_drewN | apply Kd.R_drew)); exact HO149.out))) (below_size (by repeat (first | (with_reducible first | exact HB.out | apply below_alloc | apply pw_below_drewN | apply below_drew1) | exact HB.out)))); have n2_ := Aside0.mk (below_step (by repeat (first | (with_reducible first | exact HB.out | apply below_alloc | apply pw_below_drewN | apply below_drew1) | exact HB.out)) hb); clear HO149; clear HB; have HO149 := n0_; have HO152 := n1_; have HB := n2_; clear n0_ n1_ n2_; clear hb ho14))
          go_loopg [12, 13] k (fun kq v12 v13 w' => ∃ (x10_1 : List Int) (x11_1 : List Int) (x12_1 : Int) (x13_1 : Int), v12 = .int .i64 x12_1 ∧ v13 = .int .i64 x13_1 ∧ Aside0 (insolvencyref25_Trace.l0 kq l0 a2 x10_1 x11_1 x12_1 x13_1 = some (r1, r2, r3)) ∧ Aside0 (kq ≤ k) ∧ Aside0 (Kd.R (Kd.int .i64) 2 w' w.heap.size (fun k_ => some k_ ≠ (v151 : Value).ownBlock) v148 x10_1) ∧ Aside0 (Kd.R (Kd.int .i64) 2 w' w.heap.size (fun k_ => some k_ ≠ (v148 : Value).ownBlock) v151 x11_1) ∧ Aside0 (Below w.heap.size w w'))
          case atStart => exact ⟨(y147), (y150), (0), (0), (by first | rfl | (simp; done) | (simp [*]; done)), (by first | rfl | (simp; done) | (simp [*]; done)), H', ⟨Nat.le_refl _⟩, ⟨by (with_reducible repeat (first | apply Kd.R_alloc | apply Kd.R_drewN | apply Kd.R_drew)); exact Kd.R_mono HO149.out (fun _ hk => hk.2)⟩, ⟨by (with_reducible repeat (first | apply Kd.R_alloc | apply Kd.R_drewN | apply Kd.R_drew)); exact Kd.R_mono HO152.out (fun _ hk => hk.2)⟩, ⟨by repeat (first | (with_reducible first | exact HB.out | apply below_alloc | apply pw_below_drewN | apply below_drew1) | exact HB.out)⟩⟩
          case round =>
            clear H'
            try clear c1
            try clear c2
            try clear p2
            try clear c5
            try clear c5b0
            try clear c5b1
            try clear c6
            try clear c7
            try clear c7b0
            try clear c7b1
            try clear c8
            try clear c8b0
            try clear c8b1
            obtain ⟨x10_1, x11_1, x12_1, x13_1, rfl, rfl, HA, HK1, HO_10, HO_11, HB⟩ := hrel
            cases gk with
            | zero => exact absurd HA.out (by simp [insolvencyref25_Trace.l0])
            | succ k1 =>
              have H := HA.out
              clear HA
              simp only [insolvencyref25_Trace.l0] at H
              by_cases c15 : x13_1 < (l0.length : Int)
              · rw [if_pos c15] at H
                have c15b0 : decide (x13_1 < (l0.length : Int)) = true := decide_eq_true c15
                clear c15
                by_cases c16 : 0 ≤ x13_1
                · rw [if_pos c16] at H
                  have c16b0 : decide (0 ≤ x13_1) = true := decide_eq_true c16
                  clear c16
                  have HC17 := Aside0.mk H
                  clear H
                  have p153 : 0 ≤ (x13_1 : Int) := of_decide_eq_true (by first | (with_reducible assumption) | assumption)
                  have q153 : x13_1 < (l0.length : Int) := of_decide_eq_true (by first | (with_reducible assumption) | assumption)
                  obtain ⟨ad153, e153, hx153_0, hx153_1, hx153_2, hx153_3, hx153_4, hx153_5⟩ := at_T36 HR0.out x13_1 p153 q153
                  cases e153
                  replace hx153_0 := (HB.out.cell (World.block_lt_of_cell? w _ hx153_0)).trans hx153_0
                  replace hx153_1 := (HB.out.cell (World.block_lt_of_cell? w _ hx153_1)).trans hx153_1
                  replace hx153_2 := (HB.out.cell (World.block_lt_of_cell? w _ hx153_2)).trans hx153_2
                  replace hx153_3 := (HB.out.cell (World.block_lt_of_cell? w _ hx153_3)).trans hx153_3
                  replace hx153_4 := (HB.out.cell (World.block_lt_of_cell? w _ hx153_4)).trans hx153_4
                  replace hx153_5 := (HB.out.cell (World.block_lt_of_cell? w _ hx153_5)).trans hx153_5
                  replace p153 := eq_true p153
                  replace q153 := eq_true q153
                  try go_wp2_with (first | ((with_reducible refine gate_dst (N := 14) rfl ?_); refine box_event ?hg (N := 14) ?hd (cs := #[.int .i64 0, .int .i64 0, .int .i64 0, .int .i64 0, .int .i64 0, .int .i64 0]) (t := 36) ?hr ?_; (case hd => rfl); (case hg => rfl); (case hr => first | (go_simp; done) | (go_simp; rfl)); intro gb154 hg w18 hbox hb; have n0_ := Aside0.mk (Kd.R_below (by (with_reducible repeat (first | apply Kd.R_alloc | apply Kd.R_drewN | apply Kd.R_drew)); exact HO_10.out) hb); have n1_ := Aside0.mk (Kd.R_below (by (with_reducible repeat (first | apply Kd.R_alloc | apply Kd.R_drewN | apply Kd.R_drew)); exact HO_11.out) hb); have n2_ := Aside0.mk (below_step (by repeat (first | (with_reducible first | exact HB.out | apply below_alloc | apply pw_below_drewN | apply below_drew1) | exact HB.out)) hb); have n3_ := Aside0.mk (hbox); have n4_ := Aside0.mk ((by rw [hg]; exact (below_size (by repeat (first | (with_reducible first | exact HB.out | apply below_alloc | apply pw_below_drewN | apply below_drew1) | exact HB.out))) : w.heap.size ≤ gb154)); have n5_ := Aside0.mk ((by rw [hg]; exact (below_size (by repeat (first | (with_reducible first | exact HB.out | apply below_alloc | apply pw_below_drewN | apply below_drew1) | exact HB.out))) : w.heap.size ≤ gb154)); clear HO_10; clear HO_11; clear HB; have HO_10 := n0_; have HO_11 := n1_; have HB := n2_; have BK154 := n3_; have GW154 := n4_; have GE154 := n5_; clear n0_ n1_ n2_ n3_ n4_ n5_; clear hb hbox hg; have hcz19_0 : w18.cell? ⟨gb154, 0, none⟩ = some (.int .i64 0) := (blk_cell BK154.out 0).trans rfl; have hcz19_1 : w18.cell? ⟨gb154, 1, none⟩ = some (.int .i64 0) := (blk_cell BK154.out 1).trans rfl; have hcz19_2 : w18.cell? ⟨gb154, 2, none⟩ = some (.int .i64 0) := (blk_cell BK154.out 2).trans rfl; have hcz19_3 : w18.cell? ⟨gb154, 3, none⟩ = some (.int .i64 0) := (blk_cell BK154.out 3).trans rfl; have hcz19_4 : w18.cell? ⟨gb154, 4, none⟩ = some (.int .i64 0) := (blk_cell BK154.out 4).trans rfl; have hcz19_5 : w18.cell? ⟨gb154, 5, none⟩ = some (.int .i64 0) := (blk_cell BK154.out 5).trans rfl; have hfz19_0 := blk_frozen BK154.out 0; have hfz19_1 := blk_frozen BK154.out 1; have hfz19_2 := blk_frozen BK154.out 2; have hfz19_3 := blk_frozen BK154.out 3; have hfz19_4 := blk_frozen BK154.out 4; have hfz19_5 := blk_frozen BK154.out 5))
                  have n0_ : Aside0 (Kd.R (Kd.int .i64) 2 ((((((w18.setCell ⟨gb154, 0, none⟩ (.int .i64 ((rd_T36 l0 x13_1).f0))).setCell ⟨gb154, 1, none⟩ (.int .i64 ((rd_T36 l0 x13_1).f1))).setCell ⟨gb154, 2, none⟩ (.int .i64 ((rd_T36 l0 x13_1).f2))).setCell ⟨gb154, 3, none⟩ (.int .i64 ((rd_T36 l0 x13_1).f3))).setCell ⟨gb154, 4, none⟩ (.int .i64 ((rd_T36 l0 x13_1).f4))).setCell ⟨gb154, 5, none⟩ (.int .i64 ((rd_T36 l0 x13_1).f5))) w.heap.size (fun k_ => some k_ ≠ (v151 : Value).ownBlock) v148 x10_1) := ⟨by (with_reducible repeat (first | apply Kd.R_alloc | apply Kd.R_drewN | apply Kd.R_drew)); exact Kd.R_mono (Kd.R_far (p := ⟨gb154, 5, none⟩) (Kd.R_far (p := ⟨gb154, 4, none⟩) (Kd.R_far (p := ⟨gb154, 3, none⟩) (Kd.R_far (p := ⟨gb154, 2, none⟩) (Kd.R_far (p := ⟨gb154, 1, none⟩) (Kd.R_far (p := ⟨gb154, 0, none⟩) (Kd.R_types HO_10.out BK154.out (by decide)) (fun _ hk => hk.2) (.int .i64 ((rd_T36 l0 x13_1).f0))) (fun _ hk => hk.2) (.int .i64 ((rd_T36 l0 x13_1).f1))) (fun _ hk => hk.2) (.int .i64 ((rd_T36 l0 x13_1).f2))) (fun _ hk => hk.2) (.int .i64 ((rd_T36 l0 x13_1).f3))) (fun _ hk => hk.2) (.int .i64 ((rd_T36 l0 x13_1).f4))) (fun _ hk => hk.2) (.int .i64 ((rd_T36 l0 x13_1).f5))) (fun _ hk => hk.1)⟩
                  have n1_ : Aside0 (Kd.R (Kd.int .i64) 2 ((((((w18.setCell ⟨gb154, 0, none⟩ (.int .i64 ((rd_T36 l0 x13_1).f0))).setCell ⟨gb154, 1, none⟩ (.int .i64 ((rd_T36 l0 x13_1).f1))).setCell ⟨gb154, 2, none⟩ (.int .i64 ((rd_T36 l0 x13_1).f2))).setCell ⟨gb154, 3, none⟩ (.int .i64 ((rd_T36 l0 x13_1).f3))).setCell ⟨gb154, 4, none⟩ (.int .i64 ((rd_T36 l0 x13_1).f4))).setCell ⟨gb154, 5, none⟩ (.int .i64 ((rd_T36 l0 x13_1).f5))) w.heap.size (fun k_ => some k_ ≠ (v148 : Value).ownBlock) v151 x11_1) := ⟨by (with_reducible repeat (first | apply Kd.R_alloc | apply Kd.R_drewN | apply Kd.R_drew)); exact Kd.R_mono (Kd.R_far (p := ⟨gb154, 5, none⟩) (Kd.R_far (p := ⟨gb154, 4, none⟩) (Kd.R_far (p := ⟨gb154, 3, none⟩) (Kd.R_far (p := ⟨gb154, 2, none⟩) (Kd.R_far (p := ⟨gb154, 1, none⟩) (Kd.R_far (p := ⟨gb154, 0, none⟩) (Kd.R_types HO_11.out BK154.out (by decide)) (fun _ hk => hk.2) (.int .i64 ((rd_T36 l0 x13_1).f0))) (fun _ hk => hk.2) (.int .i64 ((rd_T36 l0 x13_1).f1))) (fun _ hk => hk.2) (.int .i64 ((rd_T36 l0 x13_1).f2))) (fun _ hk => hk.2) (.int .i64 ((rd_T36 l0 x13_1).f3))) (fun _ hk => hk.2) (.int .i64 ((rd_T36 l0 x13_1).f4))) (fun _ hk => hk.2) (.int .i64 ((rd_T36 l0 x13_1).f5))) (fun _ hk => hk.1)⟩
                  have n2_ : Aside0 (((((((w18.setCell ⟨gb154, 0, none⟩ (.int .i64 ((rd_T36 l0 x13_1).f0))).setCell ⟨gb154, 1, none⟩ (.int .i64 ((rd_T36 l0 x13_1).f1))).setCell ⟨gb154, 2, none⟩ (.int .i64 ((rd_T36 l0 x13_1).f2))).setCell ⟨gb154, 3, none⟩ (.int .i64 ((rd_T36 l0 x13_1).f3))).setCell ⟨gb154, 4, none⟩ (.int .i64 ((rd_T36 l0 x13_1).f4))).setCell ⟨gb154, 5, none⟩ (.int .i64 ((rd_T36 l0 x13_1).f5))).heap[gb154]? = some (.cells #[.int .i64 ((rd_T36 l0 x13_1).f0), .int .i64 ((rd_T36 l0 x13_1).f1), .int .i64 ((rd_T36 l0 x13_1).f2), .int .i64 ((rd_T36 l0 x13_1).f3), .int .i64 ((rd_T36 l0 x13_1).f4), .int .i64 ((rd_T36 l0 x13_1).f5)] 36 (0, 0))) := ⟨by (with_reducible repeat (first | refine blk_drewN ?_ _ | refine blk_drew ?_ | refine blk_alloc ?_ _)); refine blk_put (cs := #[.int .i64 ((rd_T36 l0 x13_1).f0), .int .i64 ((rd_T36 l0 x13_1).f1), .int .i64 ((rd_T36 l0 x13_1).f2), .int .i64 ((rd_T36 l0 x13_1).f3), .int .i64 ((rd_T36 l0 x13_1).f4), .int .i64 0]) ?_ 5 _ rfl; (with_reducible repeat (first | refine blk_drewN ?_ _ | refine blk_drew ?_ | refine blk_alloc ?_ _)); refine blk_put (cs := #[.int .i64 ((rd_T36 l0 x13_1).f0), .int .i64 ((rd_T36 l0 x13_1).f1), .int .i64 ((rd_T36 l0 x13_1).f2), .int .i64 ((rd_T36 l0 x13_1).f3), .int .i64 0, .int .i64 0]) ?_ 4 _ rfl; (with_reducible repeat (first | refine blk_drewN ?_ _ | refine blk_drew ?_ | refine blk_alloc ?_ _)); refine blk_put (cs := #[.int .i64 ((rd_T36 l0 x13_1).f0), .int .i64 ((rd_T36 l0 x13_1).f1), .int .i64 ((rd_T36 l0 x13_1).f2), .int .i64 0, .int .i64 0, .int .i64 0]) ?_ 3 _ rfl; (with_reducible repeat (first | refine blk_drewN ?_ _ | refine blk_drew ?_ | refine blk_alloc ?_ _)); refine blk_put (cs := #[.int .i64 ((rd_T36 l0 x13_1).f0), .int .i64 ((rd_T36 l0 x13_1).f1), .int .i64 0, .int .i64 0, .int .i64 0, .int .i64 0]) ?_ 2 _ rfl; (with_reducible repeat (first | refine blk_drewN ?_ _ | refine blk_drew ?_ | refine blk_alloc ?_ _)); refine blk_put (cs := #[.int .i64 ((rd_T36 l0 x13_1).f0), .int .i64 0, .int .i64 0, .int .i64 0, .int .i64 0, .int .i64 0]) ?_ 1 _ rfl; (with_reducible repeat (first | refine blk_drewN ?_ _ | refine blk_drew ?_ | refine blk_alloc ?_ _)); refine blk_put (cs := #[.int .i64 0, .int .i64 0, .int .i64 0, .int .i64 0, .int .i64 0, .int .i64 0]) ?_ 0 _ rfl; (with_reducible repeat (first | refine blk_drewN ?_ _ | refine blk_drew ?_ | refine blk_alloc ?_ _)); exact BK154.out⟩
                  have n3_ : Aside0 (Below w.heap.size w ((((((w18.setCell ⟨gb154, 0, none⟩ (.int .i64 ((rd_T36 l0 x13_1).f0))).setCell ⟨gb154, 1, none⟩ (.int .i64 ((rd_T36 l0 x13_1).f1))).setCell ⟨gb154, 2, none⟩ (.int .i64 ((rd_T36 l0 x13_1).f2))).setCell ⟨gb154, 3, none⟩ (.int .i64 ((rd_T36 l0 x13_1).f3))).setCell ⟨gb154, 4, none⟩ (.int .i64 ((rd_T36 l0 x13_1).f4))).setCell ⟨gb154, 5, none⟩ (.int .i64 ((rd_T36 l0 x13_1).f5)))) := ⟨by repeat (first | (with_reducible first | exact HB.out | apply below_alloc | apply pw_below_drewN | apply below_drew1 | refine below_set ?_ GE154.out) | exact HB.out)⟩
                  (try clear HO_10)
                  (try clear HO_11)
                  (try clear BK154)
                  (try clear HB)
                  generalize ((((((w18.setCell ⟨gb154, 0, none⟩ (.int .i64 ((rd_T36 l0 x13_1).f0))).setCell ⟨gb154, 1, none⟩ (.int .i64 ((rd_T36 l0 x13_1).f1))).setCell ⟨gb154, 2, none⟩ (.int .i64 ((rd_T36 l0 x13_1).f2))).setCell ⟨gb154, 3, none⟩ (.int .i64 ((rd_T36 l0 x13_1).f3))).setCell ⟨gb154, 4, none⟩ (.int .i64 ((rd_T36 l0 x13_1).f4))).setCell ⟨gb154, 5, none⟩ (.int .i64 ((rd_T36 l0 x13_1).f5))) = w20 at n0_ n1_ n2_ n3_ ⊢
                  have HO_10 := n0_
                  have HO_11 := n1_
                  have BK154 := n2_
                  have HB := n3_
                  clear n0_ n1_ n2_ n3_
                  have n0_ := Aside0.mk (Kd.R_drew HO_10.out)
                  have n1_ := Aside0.mk (Kd.R_drew HO_11.out)
                  have n2_ := Aside0.mk (blk_drew BK154.out)
                  have n3_ := Aside0.mk (below_drew1 HB.out)
                  clear HO_10
                  clear HO_11
                  clear BK154
                  clear HB
                  have HO_10 := n0_
                  have HO_11 := n1_
                  have BK154 := n2_
                  have HB := n3_
                  clear n0_ n1_ n2_ n3_
                  refine start_ (n := 6) (S := fun w' => w'.cell? ⟨gb154, 0, none⟩ = some (.int .i64 ((rd_T36 l0 x13_1).f0)) ∧ w'.cell? ⟨gb154, 1, none⟩ = some (.int .i64 ((rd_T36 l0 x13_1).f1)) ∧ w'.cell? ⟨gb154, 2, none⟩ = some (.int .i64 ((rd_T36 l0 x13_1).f2)) ∧ w'.cell? ⟨gb154, 3, none⟩ = some (.int .i64 ((rd_T36 l0 x13_1).f3)) ∧ w'.cell? ⟨gb154, 4, none⟩ = some (.int .i64 ((rd_T36 l0 x13_1).f4)) ∧ w'.cell? ⟨gb154, 5, none⟩ = some (.int .i64 ((rd_T36 l0 x13_1).f5))) (ds := []) #[false, false, false, false, false, false] (by kernel_rfl) rfl rfl ⟨(blk_cell BK154.out 0).trans rfl, (blk_cell BK154.out 1).trans rfl, (blk_cell BK154.out 2).trans rfl, (blk_cell BK154.out 3).trans rfl, (blk_cell BK154.out 4).trans rfl, (blk_cell BK154.out 5).trans rfl⟩ (fun hHeld => ?_)
                  generalize w20.drew = w21 at HO_10 HO_11 BK154 HB hHeld ⊢
                  refine pure_ (i := 0) (N := some 44) (v := ?_) (a' := ?_) #[true, false, false, false, false, false] rfl rfl (by kernel_rfl) (fun _ _ _ h => h) (Or.inl ⟨by rfl, ?_⟩) ?_ ?_
                  rotate_left
                  · intro w'
                    go_simp
                    with_reducible rfl
                  rotate_left
                  · simp only [Act.put, List.setIfInBounds_toArray, List.set_cons_zero, List.set_cons_succ, i64_w, i32_w]
                    rfl
                  refine pure_ (i := 2) (N := some 46) (v := ?_) (a' := ?_) #[true, false, true, false, false, false] rfl rfl (by kernel_rfl) (fun _ _ _ h => h) (Or.inl ⟨by rfl, ?_⟩) ?_ ?_
                  rotate_left
                  · intro w'
                    go_simp
                    with_reducible rfl
                  rotate_left
                  · simp only [Act.put, List.setIfInBounds_toArray, List.set_cons_zero, List.set_cons_succ, i64_w, i32_w]
                    rfl
                  refine take_ (i := 1) (N := some 45) (v := ?_) (a' := ?_) #[true, true, true, false, false, false] rfl rfl (by kernel_rfl) (fun _ _ _ h => h) (Or.inl ⟨by rfl, ?_⟩) hHeld ?_ ?_
                  rotate_left
                  · rintro w' ⟨s0, s1, s2, s3, s4, s5⟩
                    go_simp
                    with_reducible rfl
                  rotate_left
                  · simp only [Act.put, List.setIfInBounds_toArray, List.set_cons_zero, List.set_cons_succ, i64_w, i32_w]
                    rfl
                  refine pure_ (i := 4) (N := some 15) (v := ?_) (a' := ?_) #[true, true, true, false, true, false] rfl rfl (by kernel_rfl) (fun _ _ _ h => h) (Or.inl ⟨by rfl, ?_⟩) ?_ ?_
                  rotate_left
                  · intro w'
                    go_simp
                    with_reducible rfl
                  rotate_left
                  · simp only [Act.put, List.setIfInBounds_toArray, List.set_cons_zero, List.set_cons_succ, i64_w, i32_w]
                    rfl
                  refine take_ (i := 3) (N := some 47) (v := ?_) (a' := ?_) #[true, true, true, true, true, false] rfl rfl (by kernel_rfl) (fun _ _ _ h => h) (Or.inl ⟨by rfl, ?_⟩) hHeld ?_ ?_
                  rotate_left
                  · rintro w' ⟨s0, s1, s2, s3, s4, s5⟩
                    go_simp
                    with_reducible rfl
                  rotate_left
                  · simp only [Act.put, List.setIfInBounds_toArray, List.set_cons_zero, List.set_cons_succ, i64_w, i32_w]
                    rfl
                  refine pure_ (i := 5) (N := some 16) (v := ?_) (a' := ?_) #[true, true, true, true, true, true] rfl rfl (by kernel_rfl) (fun _ _ _ h => h) (Or.inl ⟨by rfl, ?_⟩) ?_ ?_
                  rotate_left
                  · intro w'
                    go_simp
                    with_reducible rfl
                  rotate_left
                  · simp only [Act.put, List.setIfInBounds_toArray, List.set_cons_zero, List.set_cons_succ, i64_w, i32_w]
                    rfl
                  refine done_ (by kernel_rfl) ?_
                  have hcz22_0 : w21.cell? ⟨gb154, 0, none⟩ = some (.int .i64 ((rd_T36 l0 x13_1).f0)) := (blk_cell BK154.out 0).trans rfl
                  have hcz22_1 : w21.cell? ⟨gb154, 1, none⟩ = some (.int .i64 ((rd_T36 l0 x13_1).f1)) := (blk_cell BK154.out 1).trans rfl
                  have hcz22_2 : w21.cell? ⟨gb154, 2, none⟩ = some (.int .i64 ((rd_T36 l0 x13_1).f2)) := (blk_cell BK154.out 2).trans rfl
                  have hcz22_3 : w21.cell? ⟨gb154, 3, none⟩ = some (.int .i64 ((rd_T36 l0 x13_1).f3)) := (blk_cell BK154.out 3).trans rfl
                  have hcz22_4 : w21.cell? ⟨gb154, 4, none⟩ = some (.int .i64 ((rd_T36 l0 x13_1).f4)) := (blk_cell BK154.out 4).trans rfl
                  have hcz22_5 : w21.cell? ⟨gb154, 5, none⟩ = some (.int .i64 ((rd_T36 l0 x13_1).f5)) := (blk_cell BK154.out 5).trans rfl
                  have hfz22_0 := blk_frozen BK154.out 0
                  have hfz22_1 := blk_frozen BK154.out 1
                  have hfz22_2 := blk_frozen BK154.out 2
                  have hfz22_3 := blk_frozen BK154.out 3
                  have hfz22_4 := blk_frozen BK154.out 4
                  have hfz22_5 := blk_frozen BK154.out 5
                  go_upto_if 50 with (fail)
                  go_cut [15, 16] (fun v15 v16 wc => ∃ (kq : Nat) (x15_16 : Int) (x16_16 : Int), v15 = .int .i64 x15_16 ∧ v16 = .int .i64 x16_16 ∧ Aside0 (insolvencyref25_Trace.j1 kq l0 a2 x10_1 x11_1 x12_1 x13_1 x15_16 x16_16 ((rd_T36 l0 x13_1).f0) ((rd_T36 l0 x13_1).f1) ((rd_T36 l0 x13_1).f2) ((rd_T36 l0 x13_1).f3) ((rd_T36 l0 x13_1).f4) ((rd_T36 l0 x13_1).f5) = some (r1, r2, r3)) ∧ Aside0 (kq ≤ k1) ∧ Aside0 (Kd.R (Kd.int .i64) 2 wc w.heap.size (fun k_ => some k_ ≠ (v151 : Value).ownBlock) v148 x10_1) ∧ Aside0 (Kd.R (Kd.int .i64) 2 wc w.heap.size (fun k_ => some k_ ≠ (v148 : Value).ownBlock) v151 x11_1) ∧ Aside0 (wc.heap[gb154]? = some (.cells #[.int .i64 ((rd_T36 l0 x13_1).f0), .int .i64 ((rd_T36 l0 x13_1).f1), .int .i64 ((rd_T36 l0 x13_1).f2), .int .i64 ((rd_T36 l0 x13_1).f3), .int .i64 ((rd_T36 l0 x13_1).f4), .int .i64 ((rd_T36 l0 x13_1).f5)] 36 (0, 0))) ∧ Aside0 (Below w.heap.size w wc))
                  case first =>
                    have H := HC17.out
                    clear HC17
                    by_cases c23 : ((rd_T36 l0 x13_1).f1) = 3
                    · rw [if_pos c23] at H
                      have c23b0 : (((rd_T36 l0 x13_1).f1) == 3) = true := beq_iff_eq.mpr c23
                      have c23b1 : (((rd_T36 l0 x13_1).f1) != 3) = false := bne_eq_false_iff_eq.mpr c23
                      clear c23
                      (first | rw [c23b0] | (simp only [i64_w, i32_w]; rw [c23b0]) | rw [c23b1] | skip)
                      have H' := Aside0.mk H
                      clear H
                      try go_wp2
                      have n0_ := Aside0.mk (Kd.R_drew HO_10.out)
                      have n1_ := Aside0.mk (Kd.R_drew HO_11.out)
                      have n2_ := Aside0.mk (blk_drew BK154.out)
                      have n3_ := Aside0.mk (below_drew1 HB.out)
                      clear HO_10
                      clear HO_11
                      clear BK154
                      clear HB
                      have HO_10 := n0_
                      have HO_11 := n1_
                      have BK154 := n2_
                      have HB := n3_
                      clear n0_ n1_ n2_ n3_
                      refine start_ (n := 6) (S := fun w' => w'.cell? ⟨gb154, 0, none⟩ = some (.int .i64 ((rd_T36 l0 x13_1).f0)) ∧ w'.cell? ⟨gb154, 1, none⟩ = some (.int .i64 ((rd_T36 l0 x13_1).f1)) ∧ w'.cell? ⟨gb154, 2, none⟩ = some (.int .i64 ((rd_T36 l0 x13_1).f2)) ∧ w'.cell? ⟨gb154, 3, none⟩ = some (.int .i64 ((rd_T36 l0 x13_1).f3)) ∧ w'.cell? ⟨gb154, 4, none⟩ = some (.int .i64 ((rd_T36 l0 x13_1).f4)) ∧ w'.cell? ⟨gb154, 5, none⟩ = some (.int .i64 ((rd_T36 l0 x13_1).f5))) (ds := []) #[false, false, false, false, false, false] (by kernel_rfl) rfl rfl ⟨(blk_cell BK154.out 0).trans rfl, (blk_cell BK154.out 1).trans rfl, (blk_cell BK154.out 2).trans rfl, (blk_cell BK154.out 3).trans rfl, (blk_cell BK154.out 4).trans rfl, (blk_cell BK154.out 5).trans rfl⟩ (fun hHeld => ?_)
                      generalize w21.drew = w24 at HO_10 HO_11 BK154 HB hHeld ⊢
                      refine pure_ (i := 0) (N := some 51) (v := ?_) (a' := ?_) #[true, false, false, false, false, false] rfl rfl (by kernel_rfl) (fun _ _ _ h => h) (Or.inl ⟨by rfl, ?_⟩) ?_ ?_
                      rotate_left
                      · intro w'
                        go_simp
                        with_reducible rfl
                      rotate_left
                      · simp only [Act.put, List.setIfInBounds_toArray, List.set_cons_zero, List.set_cons_succ, i64_w, i32_w]
                        rfl
                      refine pure_ (i := 2) (N := some 53) (v := ?_) (a' := ?_) #[true, false, true, false, false, false] rfl rfl (by kernel_rfl) (fun _ _ _ h => h) (Or.inl ⟨by rfl, ?_⟩) ?_ ?_
                      rotate_left
                      · intro w'
                        go_simp
                        with_reducible rfl
                      rotate_left
                      · simp only [Act.put, List.setIfInBounds_toArray, List.set_cons_zero, List.set_cons_succ, i64_w, i32_w]
                        rfl
                      refine take_ (i := 1) (N := some 52) (v := ?_) (a' := ?_) #[true, true, true, false, false, false] rfl rfl (by kernel_rfl) (fun _ _ _ h => h) (Or.inl ⟨by rfl, ?_⟩) hHeld ?_ ?_
                      rotate_left
                      · rintro w' ⟨s0, s1, s2, s3, s4, s5⟩
                        go_simp
                        with_reducible rfl
                      rotate_left
                      · simp only [Act.put, List.setIfInBounds_toArray, List.set_cons_zero, List.set_cons_succ, i64_w, i32_w]
                        rfl
                      refine pure_ (i := 4) (N := some 15) (v := ?_) (a' := ?_) #[true, true, true, false, true, false] rfl rfl (by kernel_rfl) (fun _ _ _ h => h) (Or.inl ⟨by rfl, ?_⟩) ?_ ?_
                      rotate_left
                      · intro w'
                        go_simp
                        with_reducible rfl
                      rotate_left
                      · simp only [Act.put, List.setIfInBounds_toArray, List.set_cons_zero, List.set_cons_succ, i64_w, i32_w]
                        rfl
                      refine take_ (i := 3) (N := some 54) (v := ?_) (a' := ?_) #[true, true, true, true, true, false] rfl rfl (by kernel_rfl) (fun _ _ _ h => h) (Or.inl ⟨by rfl, ?_⟩) hHeld ?_ ?_
                      rotate_left
                      · rintro w' ⟨s0, s1, s2, s3, s4, s5⟩
                        go_simp
                        with_reducible rfl
                      rotate_left
                      · simp only [Act.put, List.setIfInBounds_toArray, List.set_cons_zero, List.set_cons_succ, i64_w, i32_w]
                        rfl
                      refine pure_ (i := 5) (N := some 16) (v := ?_) (a' := ?_) #[true, true, true, true, true, true] rfl rfl (by kernel_rfl) (fun _ _ _ h => h) (Or.inl ⟨by rfl, ?_⟩) ?_ ?_
                      rotate_left
                      · intro w'
                        go_simp
                        with_reducible rfl
                      rotate_left
                      · simp only [Act.put, List.setIfInBounds_toArray, List.set_cons_zero, List.set_cons_succ, i64_w, i32_w]
                        rfl
                      refine done_ (by kernel_rfl) ?_
                      try go_wp2
                      go_meet
                      case rel => exact ⟨_, ((rd_T36 l0 x13_1).f3), ((rd_T36 l0 x13_1).f2), (by first | rfl | (simp; done) | (simp [*]; done)), (by first | rfl | (simp; done) | (simp [*]; done)), H', ⟨by have := HK1.out; first | omega | exact Nat.le_refl _⟩, ⟨by (with_reducible repeat (first | apply Kd.R_alloc | apply Kd.R_drewN | apply Kd.R_drew)); exact HO_10.out⟩, ⟨by (with_reducible repeat (first | apply Kd.R_alloc | apply Kd.R_drewN | apply Kd.R_drew)); exact HO_11.out⟩, ⟨by (with_reducible repeat (first | refine blk_drewN ?_ _ | refine blk_drew ?_ | refine blk_alloc ?_ _)); exact BK154.out⟩, ⟨by repeat (first | (with_reducible first | exact HB.out | apply below_alloc | apply pw_below_drewN | apply below_drew1 | refine below_set ?_ GE154.out) | exact HB.out)⟩⟩
                    · rw [if_neg c23] at H
                      have c23b0 : (((rd_T36 l0 x13_1).f1) == 3) = false := beq_eq_false_iff_ne.mpr c23
                      have c23b1 : (((rd_T36 l0 x13_1).f1) != 3) = true := bne_iff_ne.mpr c23
                      (first | rw [c23b0] | (simp only [i64_w, i32_w]; rw [c23b0]) | rw [c23b1] | skip)
                      have H' := Aside0.mk H
                      clear H
                      go_wp2
                      go_meet
                      case rel => exact ⟨_, ((rd_T36 l0 x13_1).f2), ((rd_T36 l0 x13_1).f3), (by first | rfl | (simp; done) | (simp [*]; done)), (by first | rfl | (simp; done) | (simp [*]; done)), H', ⟨by have := HK1.out; first | omega | exact Nat.le_refl _⟩, ⟨by (with_reducible repeat (first | apply Kd.R_alloc | apply Kd.R_drewN | apply Kd.R_drew)); exact HO_10.out⟩, ⟨by (with_reducible repeat (first | apply Kd.R_alloc | apply Kd.R_drewN | apply Kd.R_drew)); exact HO_11.out⟩, ⟨by (with_reducible repeat (first | refine blk_drewN ?_ _ | refine blk_drew ?_ | refine blk_alloc ?_ _)); exact BK154.out⟩, ⟨by repeat (first | (with_reducible first | exact HB.out | apply below_alloc | apply pw_below_drewN | apply below_drew1 | refine below_set ?_ GE154.out) | exact HB.out)⟩⟩
                  case rest =>
                    clear HC17
                    try clear c1
                    try clear p1
                    try clear q1
                    try clear hx1
                    try clear c2
                    try clear p2
                    try clear c5
                    try clear c5b0
                    try clear c5b1
                    try clear c6
                    try clear c7
                    try clear c7b0
                    try clear c7b1
                    try clear c8
                    try clear c8b0
                    try clear c8b1
                    try clear c15
                    try clear c15b0
                    try clear p15
                    try clear q15
                    try clear hx15
                    try clear c16
                    try clear c16b0
                    try clear c17
                    try clear c23
                    try clear c23b0
                    try clear c23b1
                    try clear hcz19_0
                    try clear hcz19_1
                    try clear hcz19_2
                    try clear hcz19_3
                    try clear hcz19_4
                    try clear hcz19_5
                    try clear hcz22_0
                    try clear hcz22_1
                    try clear hcz22_2
                    try clear hcz22_3
                    try clear hcz22_4
                    try clear hcz22_5
                    try clear hfz19_0
                    try clear hfz19_1
                    try clear hfz19_2
                    try clear hfz19_3
                    try clear hfz19_4
                    try clear hfz19_5
                    try clear hfz22_0
                    try clear hfz22_1
                    try clear hfz22_2
                    try clear hfz22_3
                    try clear hfz22_4
                    try clear hfz22_5
                    try clear hx153_0
                    try clear hx153_1
                    try clear hx153_2
                    try clear hx153_3
                    try clear hx153_4
                    try clear hx153_5
                    try clear p153
                    try clear p2
                    try clear q153
                    obtain ⟨kq, x15_16, x16_16, rfl, rfl, HA, HJ16, HO_10, HO_11, BK154, HB⟩ := hcut
                    cases kq with
                    | zero => exact absurd HA.out (by simp [insolvencyref25_Trace.j1])
                    | succ kj16 =>
                      have H := HA.out
                      clear HA
                      simp only [insolvencyref25_Trace.j1] at H
                      by_cases c25 : ((rd_T36 l0 x13_1).f1) = 2
                      · rw [if_pos c25] at H
                        have c25b0 : (((rd_T36 l0 x13_1).f1) == 2) = true := beq_iff_eq.mpr c25
                        have c25b1 : (((rd_T36 l0 x13_1).f1) != 2) = false := bne_eq_false_iff_eq.mpr c25
                        clear c25
                        have H' := Aside0.mk H
                        clear H
                        have hcz26_0 : wc.cell? ⟨gb154, 0, none⟩ = some (.int .i64 ((rd_T36 l0 x13_1).f0)) := (blk_cell BK154.out 0).trans rfl
                        have hcz26_1 : wc.cell? ⟨gb154, 1, none⟩ = some (.int .i64 ((rd_T36 l0 x13_1).f1)) := (blk_cell BK154.out 1).trans rfl
                        have hcz26_2 : wc.cell? ⟨gb154, 2, none⟩ = some (.int .i64 ((rd_T36 l0 x13_1).f2)) := (blk_cell BK154.out 2).trans rfl
                        have hcz26_3 : wc.cell? ⟨gb154, 3, none⟩ = some (.int .i64 ((rd_T36 l0 x13_1).f3)) := (blk_cell BK154.out 3).trans rfl
                        have hcz26_4 : wc.cell? ⟨gb154, 4, none⟩ = some (.int .i64 ((rd_T36 l0 x13_1).f4)) := (blk_cell BK154.out 4).trans rfl
                        have hcz26_5 : wc.cell? ⟨gb154, 5, none⟩ = some (.int .i64 ((rd_T36 l0 x13_1).f5)) := (blk_cell BK154.out 5).trans rfl
                        have hfz26_0 := blk_frozen BK154.out 0
                        have hfz26_1 := blk_frozen BK154.out 1
                        have hfz26_2 := blk_frozen BK154.out 2
                        have hfz26_3 := blk_frozen BK154.out 3
                        have hfz26_4 := blk_frozen BK154.out 4
                        have hfz26_5 := blk_frozen BK154.out 5
                        go_wp2
                        go_roundg kj16
                        case measure => have := HK1.out; have := HJ16.out; omega
                        case rel => exact ⟨(x10_1), (x11_1), (x12_1), (wrap64 (x13_1 + 1)), (by first | rfl | (simp; done) | (simp [*]; done)), (by first | rfl | (simp; done) | (simp [*]; done)), H', ⟨by have := HK1.out; have := HJ16.out; omega⟩, ⟨by (with_reducible repeat (first | apply Kd.R_alloc | apply Kd.R_drewN | apply Kd.R_drew)); exact HO_10.out⟩, ⟨by (with_reducible repeat (first | apply Kd.R_alloc | apply Kd.R_drewN | apply Kd.R_drew)); exact HO_11.out⟩, ⟨by repeat (first | (with_reducible first | exact HB.out | apply below_alloc | apply pw_below_drewN | apply below_drew1 | refine below_set ?_ GE154.out) | exact HB.out)⟩⟩
                      · rw [if_neg c25] at H
                        have c25b0 : (((rd_T36 l0 x13_1).f1) == 2) = false := beq_eq_false_iff_ne.mpr c25
                        have c25b1 : (((rd_T36 l0 x13_1).f1) != 2) = true := bne_iff_ne.mpr c25
                        have HC27 := Aside0.mk H
                        clear H
                        have hcz28_0 : wc.cell? ⟨gb154, 0, none⟩ = some (.int .i64 ((rd_T36 l0 x13_1).f0)) := (blk_cell BK154.out 0).trans rfl
                        have hcz28_1 : wc.cell? ⟨gb154, 1, none⟩ = some (.int .i64 ((rd_T36 l0 x13_1).f1)) := (blk_cell BK154.out 1).trans rfl
                        have hcz28_2 : wc.cell? ⟨gb154, 2, none⟩ = some (.int .i64 ((rd_T36 l0 x13_1).f2)) := (blk_cell BK154.out 2).trans rfl
                        have hcz28_3 : wc.cell? ⟨gb154, 3, none⟩ = some (.int .i64 ((rd_T36 l0 x13_1).f3)) := (blk_cell BK154.out 3).trans rfl
                        have hcz28_4 : wc.cell? ⟨gb154, 4, none⟩ = some (.int .i64 ((rd_T36 l0 x13_1).f4)) := (blk_cell BK154.out 4).trans rfl
                        have hcz28_5 : wc.cell? ⟨gb154, 5, none⟩ = some (.int .i64 ((rd_T36 l0 x13_1).f5)) := (blk_cell BK154.out 5).trans rfl
                        have hfz28_0 := blk_frozen BK154.out 0
                        have hfz28_1 := blk_frozen BK154.out 1
                        have hfz28_2 := blk_frozen BK154.out 2
                        have hfz28_3 := blk_frozen BK154.out 3
                        have hfz28_4 := blk_frozen BK154.out 4
                        have hfz28_5 := blk_frozen BK154.out 5
                        go_upto_if 60 with (fail)
                        go_cut [12] (fun v12 wc => ∃ (kq : Nat) (x11_26 : List Int) (x12_26 : Int), v12 = .int .i64 x12_26 ∧ Aside0 (insolvencyref25_Trace.j2 kq l0 a2 x10_1 x11_26 x12_26 x13_1 x15_16 x16_16 ((rd_T36 l0 x13_1).f0) ((rd_T36 l0 x13_1).f1) ((rd_T36 l0 x13_1).f2) ((rd_T36 l0 x13_1).f3) ((rd_T36 l0 x13_1).f4) ((rd_T36 l0 x13_1).f5) = some (r1, r2, r3)) ∧ Aside0 (kq ≤ kj16) ∧ Aside0 (Kd.R (Kd.int .i64) 2 wc w.heap.size (fun k_ => some k_ ≠ (v151 : Value).ownBlock) v148 x10_1) ∧ Aside0 (Kd.R (Kd.int .i64) 2 wc w.heap.size (fun k_ => some k_ ≠ (v148 : Value).ownBlock) v151 x11_26) ∧ Aside0 (wc.heap[gb154]? = some (.cells #[.int .i64 ((rd_T36 l0 x13_1).f0), .int .i64 ((rd_T36 l0 x13_1).f1), .int .i64 ((rd_T36 l0 x13_1).f2), .int .i64 ((rd_T36 l0 x13_1).f3), .int .i64 ((rd_T36 l0 x13_1).f4), .int .i64 ((rd_T36 l0 x13_1).f5)] 36 (0, 0))) ∧ Aside0 (Below w.heap.size w wc))
                        case first =>
                          have H := HC27.out
                          clear HC27
                          by_cases c29 : x13_1 = a2
                          · rw [if_pos c29] at H
                            have c29b0 : (x13_1 == a2) = true := beq_iff_eq.mpr c29
                            have c29b1 : (x13_1 != a2) = false := bne_eq_false_iff_eq.mpr c29
                            clear c29
                            (first | rw [c29b0] | (simp only [i64_w, i32_w]; rw [c29b0]) | rw [c29b1] | skip)
                            by_cases c30 : 0 ≤ x16_16
                            · rw [if_pos c30] at H
                              have c30b0 : decide (0 ≤ x16_16) = true := decide_eq_true c30
                              clear c30
                              by_cases c31 : x16_16 < (x11_1.length : Int)
                              · rw [if_pos c31] at H
                                have c31b0 : decide (x16_16 < (x11_1.length : Int)) = true := decide_eq_true c31
                                clear c31
                                obtain ⟨y155, hy155⟩ : ∃ y_ : List Int, y_ = (x11_1.set (x16_16 : Int).toNat ((rd_T36 l0 x13_1).f4)) := ⟨_, rfl⟩
                                replace H : (insolvencyref25_Trace.j2 kj16 l0 a2 x10_1 y155 x12_1 x13_1 x15_16 x16_16 ((rd_T36 l0 x13_1).f0) ((rd_T36 l0 x13_1).f1) ((rd_T36 l0 x13_1).f2) ((rd_T36 l0 x13_1).f3) ((rd_T36 l0 x13_1).f4) ((rd_T36 l0 x13_1).f5)) = some (r1, r2, r3) := by first | (rw [hy155]; with_reducible exact H) | (have H2_ := (Option.bind_some _ _).symm.trans H; rw [hy155]; with_reducible exact H2_) | (have H2_ := (Option.bind_some _ _).symm.trans H; with_reducible exact H2_) | with_reducible exact H | (rw [hy155]; exact H) | exact H
                                have Ny155 := Aside0.mk hy155
                                clear hy155
                                have H' := Aside0.mk H
                                clear H
                                have hcz33_0 : wc.cell? ⟨gb154, 0, none⟩ = some (.int .i64 ((rd_T36 l0 x13_1).f0)) := (blk_cell BK154.out 0).trans rfl
                                have hcz33_1 : wc.cell? ⟨gb154, 1, none⟩ = some (.int .i64 ((rd_T36 l0 x13_1).f1)) := (blk_cell BK154.out 1).trans rfl
                                have hcz33_2 : wc.cell? ⟨gb154, 2, none⟩ = some (.int .i64 ((rd_T36 l0 x13_1).f2)) := (blk_cell BK154.out 2).trans rfl
                                have hcz33_3 : wc.cell? ⟨gb154, 3, none⟩ = some (.int .i64 ((rd_T36 l0 x13_1).f3)) := (blk_cell BK154.out 3).trans rfl
                                have hcz33_4 : wc.cell? ⟨gb154, 4, none⟩ = some (.int .i64 ((rd_T36 l0 x13_1).f4)) := (blk_cell BK154.out 4).trans rfl
                                have hcz33_5 : wc.cell? ⟨gb154, 5, none⟩ = some (.int .i64 ((rd_T36 l0 x13_1).f5)) := (blk_cell BK154.out 5).trans rfl
                                have hfz33_0 := blk_frozen BK154.out 0
                                have hfz33_1 := blk_frozen BK154.out 1
                                have hfz33_2 := blk_frozen BK154.out 2
                                have hfz33_3 := blk_frozen BK154.out 3
                                have hfz33_4 := blk_frozen BK154.out 4
                                have hfz33_5 := blk_frozen BK154.out 5
                                have p32 : 0 ≤ (x16_16 : Int) := of_decide_eq_true (by first | (with_reducible assumption) | assumption)
                                have q32 : (x16_16 : Int) < ((x11_1.length : Int) : Int) := of_decide_eq_true (by first | (with_reducible assumption) | assumption)
                                obtain ⟨go32, co32, eo32, gb32, gl32, cl32, HG32⟩ := Kd.R_form HO_11.out (by omega)
                                (first | cases eo32 | (injection eo32 with ea_ en_ ec_; (first | subst ea_ | (injection ea_ with ea_; subst ea_)); subst ec_; clear en_))
                                have GB32 := Aside0.mk gb32
                                have GG32 := Aside0.mk HG32
                                clear gb32 gl32 HG32
                                obtain ⟨hx32_0, hf32_0⟩ := Kd.R_celln 0 HO_11.out (x16_16 : Int) p32 q32
                                replace p32 := eq_true p32
                                replace q32 := eq_true q32
                                have HP34 := Kd.R_putg HO_11.out (x16_16 : Int) ((rd_T36 l0 x13_1).f4)
                                go_wp2_with (first | ((with_reducible refine gate_store (t := 2) (p := 65) rfl ?_); refine store_event (t := 2) (p := 65) (v := ?vo_w35) (w1 := (wc.setCell ⟨go32, (x16_16 : Int).toNat, none⟩ (.int .i64 ((rd_T36 l0 x13_1).f4)))) ?hg ?ho ?hn ?hr ?_; (case ho => rfl); (case hg => rfl); (case hn => rfl); (case hr => first | (go_simp; done) | (go_simp; rfl)); intro w35 hw; have hg : wc.grownBy w35 (some go32) := (by rw [hw]; exact HP34.2); have hp_ : Kd.R (Kd.int .i64) 2 w35 w.heap.size (fun k_ => some k_ ≠ (v148 : Value).ownBlock) (.slice (some ⟨go32, 0, none⟩) x11_1.length co32) y155 := (by rw [hw, Ny155.out]; exact HP34.1); clear HP34; have n0_ := Aside0.mk (Kd.R_after (v := (.slice (some ⟨go32, 0, none⟩) x11_1.length co32)) (v1 := (.slice (some ⟨go32, 0, none⟩) x11_1.length co32)) (ok := (fun _ => True)) (by (with_reducible repeat (first | apply Kd.R_alloc | apply Kd.R_drewN | apply Kd.R_drew)); exact Kd.R_mono HO_10.out (fun _ hk => ⟨trivial, hk⟩)) hg (.inl rfl)); have n1_ := Aside0.mk (hp_); have n2_ := Aside0.mk (blk_grown (g := gb154) (o := .cells #[.int .i64 ((rd_T36 l0 x13_1).f0), .int .i64 ((rd_T36 l0 x13_1).f1), .int .i64 ((rd_T36 l0 x13_1).f2), .int .i64 ((rd_T36 l0 x13_1).f3), .int .i64 ((rd_T36 l0 x13_1).f4), .int .i64 ((rd_T36 l0 x13_1).f5)] 36 (0, 0)) (by (with_reducible repeat (first | refine blk_drewN ?_ _ | refine blk_drew ?_ | refine blk_alloc ?_ _)); exact BK154.out) hg (Kd.R_ne HO_11.out BK154.out (by decide))); have n3_ := Aside0.mk ((by rw [hw]; exact below_set (HB.out) GB32.out : Below w.heap.size w w35)); clear HO_10; clear HO_11; clear BK154; clear HB; have HO_10 := n0_; have HO_11 := n1_; have BK154 := n2_; have HB := n3_; clear n0_ n1_ n2_ n3_; clear hg hw hp_))
                                go_meet
                                case rel => exact ⟨_, (y155), (x12_1), (by first | rfl | (simp; done) | (simp [*]; done)), H', ⟨by have := HK1.out; have := HJ16.out; first | omega | exact Nat.le_refl _⟩, ⟨by (with_reducible repeat (first | apply Kd.R_alloc | apply Kd.R_drewN | apply Kd.R_drew)); exact Kd.R_mono HO_10.out (fun _ hk => hk.2)⟩, ⟨by (with_reducible repeat (first | apply Kd.R_alloc | apply Kd.R_drewN | apply Kd.R_drew)); exact HO_11.out⟩, ⟨by (with_reducible repeat (first | refine blk_drewN ?_ _ | refine blk_drew ?_ | refine blk_alloc ?_ _)); exact BK154.out⟩, ⟨by repeat (first | (with_reducible first | exact HB.out | apply below_alloc | apply pw_below_drewN | apply below_drew1 | refine below_set ?_ GE154.out) | exact HB.out)⟩⟩
                              · rw [if_neg c31] at H
                                exact absurd H (by simp)
                            · rw [if_neg c30] at H
                              exact absurd H (by simp)
                          · rw [if_neg c29] at H
                            have c29b0 : (x13_1 == a2) = false := beq_eq_false_iff_ne.mpr c29
                            have c29b1 : (x13_1 != a2) = true := bne_iff_ne.mpr c29
                            (first | rw [c29b0] | (simp only [i64_w, i32_w]; rw [c29b0]) | rw [c29b1] | skip)
                            by_cases c36 : 0 ≤ x15_16
                            · rw [if_pos c36] at H
                              have c36b0 : decide (0 ≤ x15_16) = true := decide_eq_true c36
                              clear c36
                              by_cases c37 : x15_16 < (x10_1.length : Int)
                              · rw [if_pos c37] at H
                                have c37b0 : decide (x15_16 < (x10_1.length : Int)) = true := decide_eq_true c37
                                clear c37
                                obtain ⟨ji38, hji38⟩ : ∃ j_ : Int, (mx (rd x10_1 x15_16) 0) = j_ := ⟨_, rfl⟩
                                replace H : (if x15_16 < (x11_1.length : Int) then ((some (x11_1.set (x15_16 : Int).toNat (wrap64 ((rd x11_1 x15_16) - (mn (mx (wrap64 (((rd_T36 l0 x13_1).f4) - (wrap64 ((ji38) - (rd x11_1 x15_16))))) 0) (rd x11_1 x15_16)))) : List Int)).bind fun y160 => (if ((rd_T36 l0 x13_1).f1) = 1 then (if 0 ≤ x16_16 then (if x16_16 < (x11_1.length : Int) then (insolvencyref25_Trace.j2 kj16 l0 a2 x10_1 (y160.set (x16_16 : Int).toNat (wrap64 ((rd y160 x16_16) + (mn (mx (wrap64 (((rd_T36 l0 x13_1).f4) - (wrap64 ((ji38) - (rd x11_1 x15_16))))) 0) (rd x11_1 x15_16))))) x12_1 x13_1 x15_16 x16_16 ((rd_T36 l0 x13_1).f0) ((rd_T36 l0 x13_1).f1) ((rd_T36 l0 x13_1).f2) ((rd_T36 l0 x13_1).f3) ((rd_T36 l0 x13_1).f4) ((rd_T36 l0 x13_1).f5)) else (none)) else (none)) else (insolvencyref25_Trace.j2 kj16 l0 a2 x10_1 y160 (wrap64 (x12_1 + (mn (mx (wrap64 (((rd_T36 l0 x13_1).f4) - (wrap64 ((ji38) - (rd x11_1 x15_16))))) 0) (rd x11_1 x15_16)))) x13_1 x15_16 x16_16 ((rd_T36 l0 x13_1).f0) ((rd_T36 l0 x13_1).f1) ((rd_T36 l0 x13_1).f2) ((rd_T36 l0 x13_1).f3) ((rd_T36 l0 x13_1).f4) ((rd_T36 l0 x13_1).f5)))) else (none)) = some (r1, r2, r3) := by first | (rw [hji38] at H; exact H) | (simp only [hji38] at H ⊢; exact H)
                                have hji38_ : (if (rd x10_1 x15_16) < 0 then 0 else (rd x10_1 x15_16)) = ji38 := hji38
                                by_cases c39 : x15_16 < (x11_1.length : Int)
                                · rw [if_pos c39] at H
                                  have c39b0 : decide (x15_16 < (x11_1.length : Int)) = true := decide_eq_true c39
                                  clear c39
                                  obtain ⟨ji40, hji40⟩ : ∃ j_ : Int, (mx (wrap64 (((rd_T36 l0 x13_1).f4) - (wrap64 ((ji38) - (rd x11_1 x15_16))))) 0) = j_ := ⟨_, rfl⟩
                                  replace H : ((some (x11_1.set (x15_16 : Int).toNat (wrap64 ((rd x11_1 x15_16) - (mn (ji40) (rd x11_1 x15_16)))) : List Int)).bind fun y160 => (if ((rd_T36 l0 x13_1).f1) = 1 then (if 0 ≤ x16_16 then (if x16_16 < (x11_1.length : Int) then (insolvencyref25_Trace.j2 kj16 l0 a2 x10_1 (y160.set (x16_16 : Int).toNat (wrap64 ((rd y160 x16_16) + (mn (ji40) (rd x11_1 x15_16))))) x12_1 x13_1 x15_16 x16_16 ((rd_T36 l0 x13_1).f0) ((rd_T36 l0 x13_1).f1) ((rd_T36 l0 x13_1).f2) ((rd_T36 l0 x13_1).f3) ((rd_T36 l0 x13_1).f4) ((rd_T36 l0 x13_1).f5)) else (none)) else (none)) else (insolvencyref25_Trace.j2 kj16 l0 a2 x10_1 y160 (wrap64 (x12_1 + (mn (ji40) (rd x11_1 x15_16)))) x13_1 x15_16 x16_16 ((rd_T36 l0 x13_1).f0) ((rd_T36 l0 x13_1).f1) ((rd_T36 l0 x13_1).f2) ((rd_T36 l0 x13_1).f3) ((rd_T36 l0 x13_1).f4) ((rd_T36 l0 x13_1).f5)))) = some (r1, r2, r3) := by first | (rw [hji40] at H; exact H) | (simp only [hji40] at H ⊢; exact H)
                                  have hji40_ : (if (wrap64 (((rd_T36 l0 x13_1).f4) - (wrap64 ((ji38) - (rd x11_1 x15_16))))) < 0 then 0 else (wrap64 (((rd_T36 l0 x13_1).f4) - (wrap64 ((ji38) - (rd x11_1 x15_16)))))) = ji40 := hji40
                                  obtain ⟨ji41, hji41⟩ : ∃ j_ : Int, (mn (ji40) (rd x11_1 x15_16)) = j_ := ⟨_, rfl⟩
                                  replace H : ((some (x11_1.set (x15_16 : Int).toNat (wrap64 ((rd x11_1 x15_16) - (ji41))) : List Int)).bind fun y160 => (if ((rd_T36 l0 x13_1).f1) = 1 then (if 0 ≤ x16_16 then (if x16_16 < (x11_1.length : Int) then (insolvencyref25_Trace.j2 kj16 l0 a2 x10_1 (y160.set (x16_16 : Int).toNat (wrap64 ((rd y160 x16_16) + (ji41)))) x12_1 x13_1 x15_16 x16_16 ((rd_T36 l0 x13_1).f0) ((rd_T36 l0 x13_1).f1) ((rd_T36 l0 x13_1).f2) ((rd_T36 l0 x13_1).f3) ((rd_T36 l0 x13_1).f4) ((rd_T36 l0 x13_1).f5)) else (none)) else (none)) else (insolvencyref25_Trace.j2 kj16 l0 a2 x10_1 y160 (wrap64 (x12_1 + (ji41))) x13_1 x15_16 x16_16 ((rd_T36 l0 x13_1).f0) ((rd_T36 l0 x13_1).f1) ((rd_T36 l0 x13_1).f2) ((rd_T36 l0 x13_1).f3) ((rd_T36 l0 x13_1).f4) ((rd_T36 l0 x13_1).f5)))) = some (r1, r2, r3) := by first | (rw [hji41] at H; exact H) | (simp only [hji41] at H ⊢; exact H)
                                  have hji41_ : (if (rd x11_1 x15_16) < (ji40) then (rd x11_1 x15_16) else (ji40)) = ji41 := hji41
                                  obtain ⟨y160, hy160⟩ : ∃ y_ : List Int, y_ = (x11_1.set (x15_16 : Int).toNat (wrap64 ((rd x11_1 x15_16) - (ji41)))) := ⟨_, rfl⟩
                                  replace H : (if ((rd_T36 l0 x13_1).f1) = 1 then (if 0 ≤ x16_16 then (if x16_16 < (x11_1.length : Int) then (insolvencyref25_Trace.j2 kj16 l0 a2 x10_1 (y160.set (x16_16 : Int).toNat (wrap64 ((rd y160 x16_16) + (ji41)))) x12_1 x13_1 x15_16 x16_16 ((rd_T36 l0 x13_1).f0) ((rd_T36 l0 x13_1).f1) ((rd_T36 l0 x13_1).f2) ((rd_T36 l0 x13_1).f3) ((rd_T36 l0 x13_1).f4) ((rd_T36 l0 x13_1).f5)) else (none)) else (none)) else (insolvencyref25_Trace.j2 kj16 l0 a2 x10_1 y160 (wrap64 (x12_1 + (ji41))) x13_1 x15_16 x16_16 ((rd_T36 l0 x13_1).f0) ((rd_T36 l0 x13_1).f1) ((rd_T36 l0 x13_1).f2) ((rd_T36 l0 x13_1).f3) ((rd_T36 l0 x13_1).f4) ((rd_T36 l0 x13_1).f5))) = some (r1, r2, r3) := by first | (rw [hy160]; with_reducible exact H) | (have H2_ := (Option.bind_some _ _).symm.trans H; rw [hy160]; with_reducible exact H2_) | (have H2_ := (Option.bind_some _ _).symm.trans H; with_reducible exact H2_) | with_reducible exact H | (rw [hy160]; exact H) | exact H
                                  have Ny160 := Aside0.mk hy160
                                  clear hy160
                                  by_cases c43 : ((rd_T36 l0 x13_1).f1) = 1
                                  · rw [if_pos c43] at H
                                    have c43b0 : (((rd_T36 l0 x13_1).f1) == 1) = true := beq_iff_eq.mpr c43
                                    have c43b1 : (((rd_T36 l0 x13_1).f1) != 1) = false := bne_eq_false_iff_eq.mpr c43
                                    clear c43
                                    by_cases c44 : 0 ≤ x16_16
                                    · rw [if_pos c44] at H
                                      have c44b0 : decide (0 ≤ x16_16) = true := decide_eq_true c44
                                      clear c44
                                      by_cases c45 : x16_16 < (x11_1.length : Int)
                                      · rw [if_pos c45] at H
                                        have c45b0 : decide (x16_16 < (x11_1.length : Int)) = true := decide_eq_true c45
                                        clear c45
                                        obtain ⟨y162, hy162⟩ : ∃ y_ : List Int, y_ = (y160.set (x16_16 : Int).toNat (wrap64 ((rd y160 x16_16) + (ji41)))) := ⟨_, rfl⟩
                                        replace H : (insolvencyref25_Trace.j2 kj16 l0 a2 x10_1 y162 x12_1 x13_1 x15_16 x16_16 ((rd_T36 l0 x13_1).f0) ((rd_T36 l0 x13_1).f1) ((rd_T36 l0 x13_1).f2) ((rd_T36 l0 x13_1).f3) ((rd_T36 l0 x13_1).f4) ((rd_T36 l0 x13_1).f5)) = some (r1, r2, r3) := by first | (rw [hy162]; with_reducible exact H) | (have H2_ := (Option.bind_some _ _).symm.trans H; rw [hy162]; with_reducible exact H2_) | (have H2_ := (Option.bind_some _ _).symm.trans H; with_reducible exact H2_) | with_reducible exact H | (rw [hy162]; exact H) | exact H
                                        have Ny162 := Aside0.mk hy162
                                        clear hy162
                                        have H' := Aside0.mk H
                                        clear H
                                        try go_wp2
                                        have n0_ := Aside0.mk (Kd.R_drew HO_10.out)
                                        have n1_ := Aside0.mk (Kd.R_drew HO_11.out)
                                        have n2_ := Aside0.mk (blk_drew BK154.out)
                                        have n3_ := Aside0.mk (below_drew1 HB.out)
                                        clear HO_10
                                        clear HO_11
                                        clear BK154
                                        clear HB
                                        have HO_10 := n0_
                                        have HO_11 := n1_
                                        have BK154 := n2_
                                        have HB := n3_
                                        clear n0_ n1_ n2_ n3_
                                        obtain ⟨Ao48, co48, eo48⟩ := Kd.R_slice HO_10.out
                                        (first | subst eo48 | (injection eo48 with f1_ f2_ f3_; have f4_ := f1_.symm; have f5_ := f3_.symm; clear f1_ f2_ f3_; subst f4_; subst f5_))
                                        have p156 : 0 ≤ (x15_16 : Int) := of_decide_eq_true (by first | (with_reducible assumption) | assumption)
                                        have q156 : x15_16 < (x10_1.length : Int) := of_decide_eq_true (by first | (with_reducible assumption) | assumption)
                                        obtain ⟨ad156, e156, hx156_0⟩ := Kd.at_int (Kd.R_reads' HO_10.out).2.2 x15_16 p156 q156
                                        cases e156
                                        replace p156 := eq_true p156
                                        replace q156 := eq_true q156
                                        obtain ⟨Ao49, co49, eo49⟩ := Kd.R_slice HO_11.out
                                        (first | subst eo49 | (injection eo49 with f1_ f2_ f3_; have f4_ := f1_.symm; have f5_ := f3_.symm; clear f1_ f2_ f3_; subst f4_; subst f5_))
                                        have p157 : 0 ≤ (x15_16 : Int) := of_decide_eq_true (by first | (with_reducible assumption) | assumption)
                                        have q157 : x15_16 < (x11_1.length : Int) := of_decide_eq_true (by first | (with_reducible assumption) | assumption)
                                        obtain ⟨ad157, e157, hx157_0⟩ := Kd.at_int (Kd.R_reads' HO_11.out).2.2 x15_16 p157 q157
                                        cases e157
                                        replace p157 := eq_true p157
                                        replace q157 := eq_true q157
                                        refine start_ (n := 11) (S := fun w' => w'.cell? (ad156.add (x15_16).toNat) = some (.int .i64 (rd x10_1 x15_16)) ∧ w'.cell? (ad157.add (x15_16).toNat) = some (.int .i64 (rd x11_1 x15_16))) (ds := []) #[false, false, false, false, false, false, false, false, false, false, false] (by kernel_rfl) rfl rfl ⟨hx156_0, hx157_0⟩ (fun hHeld => ?_); refine with_tabW insolvencyref25_Trace.tab18 insolvencyref25_Trace.bits18 (fun HT_ HW_ => ?_)
                                        generalize wc.drew = w47 at HO_10 HO_11 BK154 HB hx156_0 hx157_0 hHeld ⊢
                                        refine pure_ (i := 0) (N := some 66) (v := ?_) (a' := ?_) #[true, false, false, false, false, false, false, false, false, false, false] rfl rfl (any_of HT_.out (by kernel_rfl)) (fun _ _ _ h => h) (Or.inl ⟨by rfl, ?_⟩) ?_ ?_
                                        rotate_left
                                        · intro w'
                                          go_simp
                                          with_reducible rfl
                                        rotate_left
                                        · simp only [Act.put, List.setIfInBounds_toArray, List.set_cons_zero, List.set_cons_succ, i64_w, i32_w]
                                          rfl
                                        refine pure_ (i := 1) (N := some 67) (v := ?_) (a' := ?_) #[true, true, false, false, false, false, false, false, false, false, false] rfl rfl (any_of HT_.out (by kernel_rfl)) (fun _ _ _ h => h) (Or.inl ⟨by rfl, ?_⟩) ?_ ?_
                                        rotate_left
                                        · intro w'
                                          go_simp
                                          with_reducible rfl
                                        rotate_left
                                        · simp only [Act.put, List.setIfInBounds_toArray, List.set_cons_zero, List.set_cons_succ, i64_w, i32_w]
                                          rfl
                                        refine pure_ (i := 2) (N := some 68) (v := ?_) (a' := ?_) #[true, true, true, false, false, false, false, false, false, false, false] rfl rfl (any_of HT_.out (by kernel_rfl)) (fun _ _ _ h => h) (Or.inl ⟨by rfl, ?_⟩) ?_ ?_
                                        rotate_left
                                        · intro w'
                                          go_simp
                                          with_reducible rfl
                                        rotate_left
                                        · simp only [Act.put, List.setIfInBounds_toArray, List.set_cons_zero, List.set_cons_succ, i64_w, i32_w]
                                          rfl
                                        refine pure_ (i := 5) (N := some 71) (v := ?_) (a' := ?_) #[true, true, true, false, false, true, false, false, false, false, false] rfl rfl (any_of HT_.out (by kernel_rfl)) (fun _ _ _ h => h) (Or.inl ⟨by rfl, ?_⟩) ?_ ?_
                                        rotate_left
                                        · intro w'
                                          go_simp
                                          with_reducible rfl
                                        rotate_left
                                        · simp only [Act.put, List.setIfInBounds_toArray, List.set_cons_zero, List.set_cons_succ, i64_w, i32_w]
                                          rfl
                                        refine pure_ (i := 6) (N := some 72) (v := ?_) (a' := ?_) #[true, true, true, false, false, true, true, false, false, false, false] rfl rfl (any_of HT_.out (by kernel_rfl)) (fun _ _ _ h => h) (Or.inl ⟨by rfl, ?_⟩) ?_ ?_
                                        rotate_left
                                        · intro w'
                                          go_simp
                                          with_reducible rfl
                                        rotate_left
                                        · simp only [Act.put, List.setIfInBounds_toArray, List.set_cons_zero, List.set_cons_succ, i64_w, i32_w]
                                          rfl
                                        refine pure_ (i := 7) (N := some 73) (v := ?_) (a' := ?_) #[true, true, true, false, false, true, true, true, false, false, false] rfl rfl (any_of HT_.out (by kernel_rfl)) (fun _ _ _ h => h) (Or.inl ⟨by rfl, ?_⟩) ?_ ?_
                                        rotate_left
                                        · intro w'
                                          go_simp
                                          with_reducible rfl
                                        rotate_left
                                        · simp only [Act.put, List.setIfInBounds_toArray, List.set_cons_zero, List.set_cons_succ, i64_w, i32_w]
                                          rfl
                                        refine take_ (i := 3) (N := some 69) (v := ?_) (a' := ?_) #[true, true, true, true, false, true, true, true, false, false, false] rfl rfl (take_ofW HT_.out HW_.out (by kernel_rfl)) (fun _ _ _ h => h) (Or.inl ⟨by rfl, ?_⟩) hHeld ?_ ?_
                                        rotate_left
                                        · rintro w' ⟨s0, s1⟩
                                          go_simp
                                          with_reducible rfl
                                        rotate_left
                                        · simp only [Act.put, List.setIfInBounds_toArray, List.set_cons_zero, List.set_cons_succ, i64_w, i32_w]
                                          rfl
                                        refine pure_ (i := 4) (N := some 70) (v := ?_) (a' := ?_) #[true, true, true, true, true, true, true, true, false, false, false] rfl rfl (any_of HT_.out (by kernel_rfl)) (fun _ _ _ h => h) (Or.inl ⟨by rfl, ?_⟩) ?_ ?_
                                        rotate_left
                                        · intro w'
                                          go_simp
                                          with_reducible rfl
                                        rotate_left
                                        · simp only [Act.put, List.setIfInBounds_toArray, List.set_cons_zero, List.set_cons_succ, i64_w, i32_w]
                                          rfl
                                        refine take_ (i := 8) (N := some 74) (v := ?_) (a' := ?_) #[true, true, true, true, true, true, true, true, true, false, false] rfl rfl (take_ofW HT_.out HW_.out (by kernel_rfl)) (fun _ _ _ h => h) (Or.inl ⟨by rfl, ?_⟩) hHeld ?_ ?_
                                        rotate_left
                                        · rintro w' ⟨s0, s1⟩
                                          go_simp
                                          with_reducible rfl
                                        rotate_left
                                        · simp only [Act.put, List.setIfInBounds_toArray, List.set_cons_zero, List.set_cons_succ, i64_w, i32_w]
                                          rfl
                                        refine pure_ (i := 9) (N := some 75) (v := ?_) (a' := ?_) #[true, true, true, true, true, true, true, true, true, true, false] rfl rfl (any_of HT_.out (by kernel_rfl)) (fun _ _ _ h => h) (Or.inl ⟨by rfl, ?_⟩) ?_ ?_
                                        rotate_left
                                        · intro w'
                                          go_simp
                                          with_reducible rfl
                                        rotate_left
                                        · simp only [Act.put, List.setIfInBounds_toArray, List.set_cons_zero, List.set_cons_succ, i64_w, i32_w]
                                          rfl
                                        refine pure_ (i := 10) (N := some 18) (v := ?_) (a' := ?_) #[true, true, true, true, true, true, true, true, true, true, true] rfl rfl (any_of HT_.out (by kernel_rfl)) (fun _ _ _ h => h) (Or.inl ⟨by rfl, ?_⟩) ?_ ?_
                                        rotate_left
                                        · intro w'
                                          go_simp
                                          with_reducible rfl
                                        rotate_left
                                        · simp only [Act.put, List.setIfInBounds_toArray, List.set_cons_zero, List.set_cons_succ, i64_w, i32_w]
                                          rfl
                                        refine done_ (done_of HT_.out (by kernel_rfl)) ?_
                                        try go_wp2
                                        have n0_ := Aside0.mk (Kd.R_drew HO_10.out)
                                        have n1_ := Aside0.mk (Kd.R_drew HO_11.out)
                                        have n2_ := Aside0.mk (blk_drew BK154.out)
                                        have n3_ := Aside0.mk (below_drew1 HB.out)
                                        clear HO_10
                                        clear HO_11
                                        clear BK154
                                        clear HB
                                        have HO_10 := n0_
                                        have HO_11 := n1_
                                        have BK154 := n2_
                                        have HB := n3_
                                        clear n0_ n1_ n2_ n3_
                                        have p158 : 0 ≤ (x15_16 : Int) := of_decide_eq_true (by first | (with_reducible assumption) | assumption)
                                        have q158 : x15_16 < (x11_1.length : Int) := of_decide_eq_true (by first | (with_reducible assumption) | assumption)
                                        obtain ⟨ad158, e158, hx158_0⟩ := Kd.at_int (Kd.R_reads' HO_11.out).2.2 x15_16 p158 q158
                                        obtain rfl : ad157 = ad158 := (by injection e158)
                                        replace p158 := eq_true p158
                                        replace q158 := eq_true q158
                                        refine start_ (n := 11) (S := fun w' => w'.cell? ⟨gb154, 0, none⟩ = some (.int .i64 ((rd_T36 l0 x13_1).f0)) ∧ w'.cell? ⟨gb154, 1, none⟩ = some (.int .i64 ((rd_T36 l0 x13_1).f1)) ∧ w'.cell? ⟨gb154, 2, none⟩ = some (.int .i64 ((rd_T36 l0 x13_1).f2)) ∧ w'.cell? ⟨gb154, 3, none⟩ = some (.int .i64 ((rd_T36 l0 x13_1).f3)) ∧ w'.cell? ⟨gb154, 4, none⟩ = some (.int .i64 ((rd_T36 l0 x13_1).f4)) ∧ w'.cell? ⟨gb154, 5, none⟩ = some (.int .i64 ((rd_T36 l0 x13_1).f5)) ∧ w'.cell? (ad157.add (x15_16).toNat) = some (.int .i64 (rd x11_1 x15_16))) (ds := []) #[false, false, false, false, false, false, false, false, false, false, false] (by kernel_rfl) rfl rfl ⟨(blk_cell BK154.out 0).trans rfl, (blk_cell BK154.out 1).trans rfl, (blk_cell BK154.out 2).trans rfl, (blk_cell BK154.out 3).trans rfl, (blk_cell BK154.out 4).trans rfl, (blk_cell BK154.out 5).trans rfl, hx158_0⟩ (fun hHeld => ?_); refine with_tabW insolvencyref25_Trace.tab19 insolvencyref25_Trace.bits19 (fun HT_ HW_ => ?_)
                                        generalize w47.drew = w50 at HO_10 HO_11 BK154 HB hx158_0 hHeld ⊢
                                        refine pure_ (i := 0) (N := some 76) (v := ?_) (a' := ?_) #[true, false, false, false, false, false, false, false, false, false, false] rfl rfl (any_of HT_.out (by kernel_rfl)) (fun _ _ _ h => h) (Or.inl ⟨by rfl, ?_⟩) ?_ ?_
                                        rotate_left
                                        · intro w'
                                          go_simp
                                          with_reducible rfl
                                        rotate_left
                                        · simp only [Act.put, List.setIfInBounds_toArray, List.set_cons_zero, List.set_cons_succ, i64_w, i32_w]
                                          rfl
                                        refine pure_ (i := 2) (N := some 78) (v := ?_) (a' := ?_) #[true, false, true, false, false, false, false, false, false, false, false] rfl rfl (any_of HT_.out (by kernel_rfl)) (fun _ _ _ h => h) (Or.inl ⟨by rfl, ?_⟩) ?_ ?_
                                        rotate_left
                                        · intro w'
                                          go_simp
                                          with_reducible rfl
                                        rotate_left
                                        · simp only [Act.put, List.setIfInBounds_toArray, List.set_cons_zero, List.set_cons_succ, i64_w, i32_w]
                                          rfl
                                        refine pure_ (i := 5) (N := some 81) (v := ?_) (a' := ?_) #[true, false, true, false, false, true, false, false, false, false, false] rfl rfl (any_of HT_.out (by kernel_rfl)) (fun _ _ _ h => h) (Or.inl ⟨by rfl, ?_⟩) ?_ ?_
                                        rotate_left
                                        · intro w'
                                          go_simp
                                          with_reducible rfl
                                        rotate_left
                                        · simp only [Act.put, List.setIfInBounds_toArray, List.set_cons_zero, List.set_cons_succ, i64_w, i32_w]
                                          rfl
                                        refine pure_ (i := 6) (N := some 82) (v := ?_) (a' := ?_) #[true, false, true, false, false, true, true, false, false, false, false] rfl rfl (any_of HT_.out (by kernel_rfl)) (fun _ _ _ h => h) (Or.inl ⟨by rfl, ?_⟩) ?_ ?_
                                        rotate_left
                                        · intro w'
                                          go_simp
                                          with_reducible rfl
                                        rotate_left
                                        · simp only [Act.put, List.setIfInBounds_toArray, List.set_cons_zero, List.set_cons_succ, i64_w, i32_w]
                                          rfl
                                        refine pure_ (i := 7) (N := some 83) (v := ?_) (a' := ?_) #[true, false, true, false, false, true, true, true, false, false, false] rfl rfl (any_of HT_.out (by kernel_rfl)) (fun _ _ _ h => h) (Or.inl ⟨by rfl, ?_⟩) ?_ ?_
                                        rotate_left
                                        · intro w'
                                          go_simp
                                          with_reducible rfl
                                        rotate_left
                                        · simp only [Act.put, List.setIfInBounds_toArray, List.set_cons_zero, List.set_cons_succ, i64_w, i32_w]
                                          rfl
                                        refine take_ (i := 1) (N := some 77) (v := ?_) (a' := ?_) #[true, true, true, false, false, true, true, true, false, false, false] rfl rfl (take_ofW HT_.out HW_.out (by kernel_rfl)) (fun _ _ _ h => h) (Or.inl ⟨by rfl, ?_⟩) hHeld ?_ ?_
                                        rotate_left
                                        · rintro w' ⟨s0, s1, s2, s3, s4, s5, s6⟩
                                          go_simp
                                          with_reducible rfl
                                        rotate_left
                                        · simp only [Act.put, List.setIfInBounds_toArray, List.set_cons_zero, List.set_cons_succ, i64_w, i32_w]
                                          rfl
                                        refine pure_ (i := 3) (N := some 79) (v := ?_) (a' := ?_) #[true, true, true, true, false, true, true, true, false, false, false] rfl rfl (any_of HT_.out (by kernel_rfl)) (fun _ _ _ h => h) (Or.inl ⟨by rfl, ?_⟩) ?_ ?_
                                        rotate_left
                                        · intro w'
                                          go_simp
                                          with_reducible rfl
                                        rotate_left
                                        · simp only [Act.put, List.setIfInBounds_toArray, List.set_cons_zero, List.set_cons_succ, i64_w, i32_w]
                                          rfl
                                        refine pure_ (i := 4) (N := some 80) (v := ?_) (a' := ?_) #[true, true, true, true, true, true, true, true, false, false, false] rfl rfl (any_of HT_.out (by kernel_rfl)) (fun _ _ _ h => h) (Or.inl ⟨by rfl, ?_⟩) ?_ ?_
                                        rotate_left
                                        · intro w'
                                          go_simp
                                          with_reducible rfl
                                        rotate_left
                                        · simp only [Act.put, List.setIfInBounds_toArray, List.set_cons_zero, List.set_cons_succ, i64_w, i32_w]
                                          rfl
                                        refine take_ (i := 8) (N := some 84) (v := ?_) (a' := ?_) #[true, true, true, true, true, true, true, true, true, false, false] rfl rfl (take_ofW HT_.out HW_.out (by kernel_rfl)) (fun _ _ _ h => h) (Or.inl ⟨by rfl, ?_⟩) hHeld ?_ ?_
                                        rotate_left
                                        · rintro w' ⟨s0, s1, s2, s3, s4, s5, s6⟩
                                          go_simp
                                          with_reducible rfl
                                        rotate_left
                                        · simp only [Act.put, List.setIfInBounds_toArray, List.set_cons_zero, List.set_cons_succ, i64_w, i32_w]
                                          rfl
                                        refine pure_ (i := 9) (N := some 85) (v := ?_) (a' := ?_) #[true, true, true, true, true, true, true, true, true, true, false] rfl rfl (any_of HT_.out (by kernel_rfl)) (fun _ _ _ h => h) (Or.inl ⟨by rfl, ?_⟩) ?_ ?_
                                        rotate_left
                                        · intro w'
                                          go_simp
                                          with_reducible rfl
                                        rotate_left
                                        · simp only [Act.put, List.setIfInBounds_toArray, List.set_cons_zero, List.set_cons_succ, i64_w, i32_w]
                                          rfl
                                        refine pure_ (i := 10) (N := some 17) (v := ?_) (a' := ?_) #[true, true, true, true, true, true, true, true, true, true, true] rfl rfl (any_of HT_.out (by kernel_rfl)) (fun _ _ _ h => h) (Or.inl ⟨by rfl, ?_⟩) ?_ ?_
                                        rotate_left
                                        · intro w'
                                          go_simp
                                          with_reducible rfl
                                        rotate_left
                                        · simp only [Act.put, List.setIfInBounds_toArray, List.set_cons_zero, List.set_cons_succ, i64_w, i32_w]
                                          rfl
                                        refine done_ (done_of HT_.out (by kernel_rfl)) ?_
                                        have p159 : 0 ≤ (x15_16 : Int) := of_decide_eq_true (by first | (with_reducible assumption) | assumption)
                                        have q159 : x15_16 < (x11_1.length : Int) := of_decide_eq_true (by first | (with_reducible assumption) | assumption)
                                        obtain ⟨ad159, e159, hx159_0⟩ := Kd.at_int (Kd.R_reads' HO_11.out).2.2 x15_16 p159 q159
                                        obtain rfl : ad157 = ad159 := (by injection e159)
                                        replace p159 := eq_true p159
                                        replace q159 := eq_true q159
                                        have p42 : 0 ≤ (x15_16 : Int) := of_decide_eq_true (by first | (with_reducible assumption) | assumption)
                                        have q42 : (x15_16 : Int) < ((x11_1.length : Int) : Int) := of_decide_eq_true (by first | (with_reducible assumption) | assumption)
                                        obtain ⟨go42, co42, eo42, gb42, gl42, cl42, HG42⟩ := Kd.R_form HO_11.out (by omega)
                                        (first | cases eo42 | (injection eo42 with ea_ en_ ec_; (first | subst ea_ | (injection ea_ with ea_; subst ea_)); subst ec_; clear en_))
                                        have GB42 := Aside0.mk gb42
                                        have GG42 := Aside0.mk HG42
                                        clear gb42 gl42 HG42
                                        (first | simp only [add_plain] at hx157_0 | skip)
                                        (first | simp only [add_plain] at hx158_0 | skip)
                                        (first | simp only [add_plain] at hx159_0 | skip)
                                        obtain ⟨hx42_0, hf42_0⟩ := Kd.R_celln 0 HO_11.out (x15_16 : Int) p42 q42
                                        replace p42 := eq_true p42
                                        replace q42 := eq_true q42
                                        obtain ⟨hy51_, hz51_⟩ := Kd.R_celln 0 HO_11.out (x15_16 : Int) (of_decide_eq_true (by first | (with_reducible assumption) | assumption)) (of_decide_eq_true (by first | (with_reducible assumption) | assumption))
                                        have HP51 := Kd.R_putg HO_11.out (x15_16 : Int) (wrap64 ((rd x11_1 x15_16) - (ji41)))
                                        try go_wp2_with (first | ((with_reducible refine gate_store (t := 2) (p := 94) rfl ?_); refine store_event (t := 2) (p := 94) (v := ?vo_w52) (w1 := (w50.setCell ⟨go42, (x15_16 : Int).toNat, none⟩ (.int .i64 (wrap64 ((rd x11_1 x15_16) - (ji41)))))) ?hg ?ho ?hn ?hr ?_; (case ho => rfl); (case hg => rfl); (case hn => rfl); (case hr => first | (go_simp; done) | (go_simp; rfl)); intro w52 hw; have hg : w50.grownBy w52 (some go42) := (by rw [hw]; exact HP51.2); have hp_ : Kd.R (Kd.int .i64) 2 w52 w.heap.size (fun k_ => some k_ ≠ (.slice (some ad156) x10_1.length co48 : Value).ownBlock) (.slice (some ⟨go42, 0, none⟩) x11_1.length co49) y160 := (by rw [hw, Ny160.out]; exact HP51.1); clear HP51; have n0_ := Aside0.mk (Kd.R_after (v := (.slice (some ⟨go42, 0, none⟩) x11_1.length co49)) (v1 := (.slice (some ⟨go42, 0, none⟩) x11_1.length co49)) (ok := (fun _ => True)) (by (with_reducible repeat (first | apply Kd.R_alloc | apply Kd.R_drewN | apply Kd.R_drew)); exact Kd.R_mono HO_10.out (fun _ hk => ⟨trivial, hk⟩)) hg (.inl rfl)); have n1_ := Aside0.mk (hp_); have n2_ := Aside0.mk (blk_grown (g := gb154) (o := .cells #[.int .i64 ((rd_T36 l0 x13_1).f0), .int .i64 ((rd_T36 l0 x13_1).f1), .int .i64 ((rd_T36 l0 x13_1).f2), .int .i64 ((rd_T36 l0 x13_1).f3), .int .i64 ((rd_T36 l0 x13_1).f4), .int .i64 ((rd_T36 l0 x13_1).f5)] 36 (0, 0)) (by (with_reducible repeat (first | refine blk_drewN ?_ _ | refine blk_drew ?_ | refine blk_alloc ?_ _)); exact BK154.out) hg (Kd.R_ne HO_11.out BK154.out (by decide))); have n3_ := Aside0.mk ((by rw [hw]; exact below_set (HB.out) GB42.out : Below w.heap.size w w52)); clear HO_10; clear HO_11; clear BK154; clear HB; have HO_10 := n0_; have HO_11 := n1_; have BK154 := n2_; have HB := n3_; clear n0_ n1_ n2_ n3_; clear hg hw hp_; have hcz53_0 : w52.cell? ⟨gb154, 0, none⟩ = some (.int .i64 ((rd_T36 l0 x13_1).f0)) := (blk_cell BK154.out 0).trans rfl; have hcz53_1 : w52.cell? ⟨gb154, 1, none⟩ = some (.int .i64 ((rd_T36 l0 x13_1).f1)) := (blk_cell BK154.out 1).trans rfl; have hcz53_2 : w52.cell? ⟨gb154, 2, none⟩ = some (.int .i64 ((rd_T36 l0 x13_1).f2)) := (blk_cell BK154.out 2).trans rfl; have hcz53_3 : w52.cell? ⟨gb154, 3, none⟩ = some (.int .i64 ((rd_T36 l0 x13_1).f3)) := (blk_cell BK154.out 3).trans rfl; have hcz53_4 : w52.cell? ⟨gb154, 4, none⟩ = some (.int .i64 ((rd_T36 l0 x13_1).f4)) := (blk_cell BK154.out 4).trans rfl; have hcz53_5 : w52.cell? ⟨gb154, 5, none⟩ = some (.int .i64 ((rd_T36 l0 x13_1).f5)) := (blk_cell BK154.out 5).trans rfl; have hfz53_0 := blk_frozen BK154.out 0; have hfz53_1 := blk_frozen BK154.out 1; have hfz53_2 := blk_frozen BK154.out 2; have hfz53_3 := blk_frozen BK154.out 3; have hfz53_4 := blk_frozen BK154.out 4; have hfz53_5 := blk_frozen BK154.out 5; have p161 : 0 ≤ (x16_16 : Int) := of_decide_eq_true (by first | (with_reducible assumption) | assumption); have q161 : x16_16 < (y160.length : Int) := (by have h_ : (x16_16 : Int) < ((x11_1.length : Int) : Int) := of_decide_eq_true (by first | (with_reducible assumption) | assumption); first | (have e_ := (Kd.R_reads' HO_11.out).1; omega) | simpa only [Ny160.out, List.length_set] using h_); have ql161 : ((x16_16 : Int) < ((x11_1.length : Int) : Int)) = True := eq_true (of_decide_eq_true (by first | (with_reducible assumption) | assumption)); obtain ⟨ad161, e161, hx161_0⟩ := Kd.at_int (Kd.R_reads' HO_11.out).2.2 x16_16 p161 q161; obtain rfl : (⟨go42, 0, none⟩ : Addr) = ad161 := (by injection e161); (first | simp only [add_plain] at hx161_0 | simp only [add_at] at hx161_0 | simp only [Addr.add, Nat.zero_add] at hx161_0 | skip); replace p161 := eq_true p161; replace q161 := eq_true q161; have p46 : 0 ≤ (x16_16 : Int) := of_decide_eq_true (by first | (with_reducible assumption) | assumption); have q46 : (x16_16 : Int) < ((x11_1.length : Int) : Int) := of_decide_eq_true (by first | (with_reducible assumption) | assumption); obtain ⟨hx46_0, hf46_0⟩ := Kd.R_celln 0 HO_11.out (x16_16 : Int) p46 q46; replace p46 := eq_true p46; replace q46 := eq_true q46; obtain ⟨hy54_, hz54_⟩ := Kd.R_celln 0 HO_11.out (x16_16 : Int) (of_decide_eq_true (by first | (with_reducible assumption) | assumption)) (of_decide_eq_true (by first | (with_reducible assumption) | assumption)); have HP54 := Kd.R_putg HO_11.out (x16_16 : Int) (wrap64 ((rd y160 x16_16) + (ji41)))) | ((with_reducible refine gate_store (t := 2) (p := 106) rfl ?_); refine store_event (t := 2) (p := 106) (v := ?vo_w55) (w1 := (w52.setCell ⟨go42, (x16_16 : Int).toNat, none⟩ (.int .i64 (wrap64 ((rd y160 x16_16) + (ji41)))))) ?hg ?ho ?hn ?hr ?_; (case ho => rfl); (case hg => rfl); (case hn => rfl); (case hr => first | (go_simp; done) | (go_simp; rfl)); intro w55 hw; have hg : w52.grownBy w55 (some go42) := (by rw [hw]; exact HP54.2); have hp_ : Kd.R (Kd.int .i64) 2 w55 w.heap.size (fun k_ => some k_ ≠ (.slice (some ad156) x10_1.length co48 : Value).ownBlock) (.slice (some ⟨go42, 0, none⟩) x11_1.length co49) y162 := (by rw [hw, Ny162.out]; exact HP54.1); clear HP54; have n0_ := Aside0.mk (Kd.R_after (v := (.slice (some ⟨go42, 0, none⟩) x11_1.length co49)) (v1 := (.slice (some ⟨go42, 0, none⟩) x11_1.length co49)) (ok := (fun _ => True)) (by (with_reducible repeat (first | apply Kd.R_alloc | apply Kd.R_drewN | apply Kd.R_drew)); exact HO_10.out) hg (.inl rfl)); have n1_ := Aside0.mk (hp_); have n2_ := Aside0.mk (blk_grown (g := gb154) (o := .cells #[.int .i64 ((rd_T36 l0 x13_1).f0), .int .i64 ((rd_T36 l0 x13_1).f1), .int .i64 ((rd_T36 l0 x13_1).f2), .int .i64 ((rd_T36 l0 x13_1).f3), .int .i64 ((rd_T36 l0 x13_1).f4), .int .i64 ((rd_T36 l0 x13_1).f5)] 36 (0, 0)) (by (with_reducible repeat (first | refine blk_drewN ?_ _ | refine blk_drew ?_ | refine blk_alloc ?_ _)); exact BK154.out) hg (Kd.R_ne HO_11.out BK154.out (by decide))); have n3_ := Aside0.mk ((by rw [hw]; exact below_set (HB.out) GB42.out : Below w.heap.size w w55)); clear HO_10; clear HO_11; clear BK154; clear HB; have HO_10 := n0_; have HO_11 := n1_; have BK154 := n2_; have HB := n3_; clear n0_ n1_ n2_ n3_; clear hg hw hp_))
                                        go_meet
                                        case rel => exact ⟨_, (y162), (x12_1), (by first | rfl | (simp; done) | (simp [*]; done)), H', ⟨by have := HK1.out; have := HJ16.out; first | omega | exact Nat.le_refl _⟩, ⟨by (with_reducible repeat (first | apply Kd.R_alloc | apply Kd.R_drewN | apply Kd.R_drew)); exact Kd.R_mono HO_10.out (fun _ hk => hk.2)⟩, ⟨by (with_reducible repeat (first | apply Kd.R_alloc | apply Kd.R_drewN | apply Kd.R_drew)); exact HO_11.out⟩, ⟨by (with_reducible repeat (first | refine blk_drewN ?_ _ | refine blk_drew ?_ | refine blk_alloc ?_ _)); exact BK154.out⟩, ⟨by repeat (first | (with_reducible first | exact HB.out | apply below_alloc | apply pw_below_drewN | apply below_drew1 | refine below_set ?_ GE154.out) | exact HB.out)⟩⟩
                                      · rw [if_neg c45] at H
                                        exact absurd H (by simp)
                                    · rw [if_neg c44] at H
                                      exact absurd H (by simp)
                                  · rw [if_neg c43] at H
                                    have c43b0 : (((rd_T36 l0 x13_1).f1) == 1) = false := beq_eq_false_iff_ne.mpr c43
                                    have c43b1 : (((rd_T36 l0 x13_1).f1) != 1) = true := bne_iff_ne.mpr c43
                                    have H' := Aside0.mk H
                                    clear H
                                    try go_wp2
                                    have n0_ := Aside0.mk (Kd.R_drew HO_10.out)
                                    have n1_ := Aside0.mk (Kd.R_drew HO_11.out)
                                    have n2_ := Aside0.mk (blk_drew BK154.out)
                                    have n3_ := Aside0.mk (below_drew1 HB.out)
                                    clear HO_10
                                    clear HO_11
                                    clear BK154
                                    clear HB
                                    have HO_10 := n0_
                                    have HO_11 := n1_
                                    have BK154 := n2_
                                    have HB := n3_
                                    clear n0_ n1_ n2_ n3_
                                    obtain ⟨Ao57, co57, eo57⟩ := Kd.R_slice HO_10.out
                                    (first | subst eo57 | (injection eo57 with f1_ f2_ f3_; have f4_ := f1_.symm; have f5_ := f3_.symm; clear f1_ f2_ f3_; subst f4_; subst f5_))
                                    have p156 : 0 ≤ (x15_16 : Int) := of_decide_eq_true (by first | (with_reducible assumption) | assumption)
                                    have q156 : x15_16 < (x10_1.length : Int) := of_decide_eq_true (by first | (with_reducible assumption) | assumption)
                                    obtain ⟨ad156, e156, hx156_0⟩ := Kd.at_int (Kd.R_reads' HO_10.out).2.2 x15_16 p156 q156
                                    cases e156
                                    replace p156 := eq_true p156
                                    replace q156 := eq_true q156
                                    obtain ⟨Ao58, co58, eo58⟩ := Kd.R_slice HO_11.out
                                    (first | subst eo58 | (injection eo58 with f1_ f2_ f3_; have f4_ := f1_.symm; have f5_ := f3_.symm; clear f1_ f2_ f3_; subst f4_; subst f5_))
                                    have p157 : 0 ≤ (x15_16 : Int) := of_decide_eq_true (by first | (with_reducible assumption) | assumption)
                                    have q157 : x15_16 < (x11_1.length : Int) := of_decide_eq_true (by first | (with_reducible assumption) | assumption)
                                    obtain ⟨ad157, e157, hx157_0⟩ := Kd.at_int (Kd.R_reads' HO_11.out).2.2 x15_16 p157 q157
                                    cases e157
                                    replace p157 := eq_true p157
                                    replace q157 := eq_true q157
                                    refine start_ (n := 11) (S := fun w' => w'.cell? (ad156.add (x15_16).toNat) = some (.int .i64 (rd x10_1 x15_16)) ∧ w'.cell? (ad157.add (x15_16).toNat) = some (.int .i64 (rd x11_1 x15_16))) (ds := []) #[false, false, false, false, false, false, false, false, false, false, false] (by kernel_rfl) rfl rfl ⟨hx156_0, hx157_0⟩ (fun hHeld => ?_); refine with_tabW insolvencyref25_Trace.tab18 insolvencyref25_Trace.bits18 (fun HT_ HW_ => ?_)
                                    generalize wc.drew = w56 at HO_10 HO_11 BK154 HB hx156_0 hx157_0 hHeld ⊢
                                    refine pure_ (i := 0) (N := some 66) (v := ?_) (a' := ?_) #[true, false, false, false, false, false, false, false, false, false, false] rfl rfl (any_of HT_.out (by kernel_rfl)) (fun _ _ _ h => h) (Or.inl ⟨by rfl, ?_⟩) ?_ ?_
                                    rotate_left
                                    · intro w'
                                      go_simp
                                      with_reducible rfl
                                    rotate_left
                                    · simp only [Act.put, List.setIfInBounds_toArray, List.set_cons_zero, List.set_cons_succ, i64_w, i32_w]
                                      rfl
                                    refine pure_ (i := 1) (N := some 67) (v := ?_) (a' := ?_) #[true, true, false, false, false, false, false, false, false, false, false] rfl rfl (any_of HT_.out (by kernel_rfl)) (fun _ _ _ h => h) (Or.inl ⟨by rfl, ?_⟩) ?_ ?_
                                    rotate_left
                                    · intro w'
                                      go_simp
                                      with_reducible rfl
                                    rotate_left
                                    · simp only [Act.put, List.setIfInBounds_toArray, List.set_cons_zero, List.set_cons_succ, i64_w, i32_w]
                                      rfl
                                    refine pure_ (i := 2) (N := some 68) (v := ?_) (a' := ?_) #[true, true, true, false, false, false, false, false, false, false, false] rfl rfl (any_of HT_.out (by kernel_rfl)) (fun _ _ _ h => h) (Or.inl ⟨by rfl, ?_⟩) ?_ ?_
                                    rotate_left
                                    · intro w'
                                      go_simp
                                      with_reducible rfl
                                    rotate_left
                                    · simp only [Act.put, List.setIfInBounds_toArray, List.set_cons_zero, List.set_cons_succ, i64_w, i32_w]
                                      rfl
                                    refine pure_ (i := 5) (N := some 71) (v := ?_) (a' := ?_) #[true, true, true, false, false, true, false, false, false, false, false] rfl rfl (any_of HT_.out (by kernel_rfl)) (fun _ _ _ h => h) (Or.inl ⟨by rfl, ?_⟩) ?_ ?_
                                    rotate_left
                                    · intro w'
                                      go_simp
                                      with_reducible rfl
                                    rotate_left
                                    · simp only [Act.put, List.setIfInBounds_toArray, List.set_cons_zero, List.set_cons_succ, i64_w, i32_w]
                                      rfl
                                    refine pure_ (i := 6) (N := some 72) (v := ?_) (a' := ?_) #[true, true, true, false, false, true, true, false, false, false, false] rfl rfl (any_of HT_.out (by kernel_rfl)) (fun _ _ _ h => h) (Or.inl ⟨by rfl, ?_⟩) ?_ ?_
                                    rotate_left
                                    · intro w'
                                      go_simp
                                      with_reducible rfl
                                    rotate_left
                                    · simp only [Act.put, List.setIfInBounds_toArray, List.set_cons_zero, List.set_cons_succ, i64_w, i32_w]
                                      rfl
                                    refine pure_ (i := 7) (N := some 73) (v := ?_) (a' := ?_) #[true, true, true, false, false, true, true, true, false, false, false] rfl rfl (any_of HT_.out (by kernel_rfl)) (fun _ _ _ h => h) (Or.inl ⟨by rfl, ?_⟩) ?_ ?_
                                    rotate_left
                                    · intro w'
                                      go_simp
                                      with_reducible rfl
                                    rotate_left
                                    · simp only [Act.put, List.setIfInBounds_toArray, List.set_cons_zero, List.set_cons_succ, i64_w, i32_w]
                                      rfl
                                    refine take_ (i := 3) (N := some 69) (v := ?_) (a' := ?_) #[true, true, true, true, false, true, true, true, false, false, false] rfl rfl (take_ofW HT_.out HW_.out (by kernel_rfl)) (fun _ _ _ h => h) (Or.inl ⟨by rfl, ?_⟩) hHeld ?_ ?_
                                    rotate_left
                                    · rintro w' ⟨s0, s1⟩
                                      go_simp
                                      with_reducible rfl
                                    rotate_left
                                    · simp only [Act.put, List.setIfInBounds_toArray, List.set_cons_zero, List.set_cons_succ, i64_w, i32_w]
                                      rfl
                                    refine pure_ (i := 4) (N := some 70) (v := ?_) (a' := ?_) #[true, true, true, true, true, true, true, true, false, false, false] rfl rfl (any_of HT_.out (by kernel_rfl)) (fun _ _ _ h => h) (Or.inl ⟨by rfl, ?_⟩) ?_ ?_
                                    rotate_left
                                    · intro w'
                                      go_simp
                                      with_reducible rfl
                                    rotate_left
                                    · simp only [Act.put, List.setIfInBounds_toArray, List.set_cons_zero, List.set_cons_succ, i64_w, i32_w]
                                      rfl
                                    refine take_ (i := 8) (N := some 74) (v := ?_) (a' := ?_) #[true, true, true, true, true, true, true, true, true, false, false] rfl rfl (take_ofW HT_.out HW_.out (by kernel_rfl)) (fun _ _ _ h => h) (Or.inl ⟨by rfl, ?_⟩) hHeld ?_ ?_
                                    rotate_left
                                    · rintro w' ⟨s0, s1⟩
                                      go_simp
                                      with_reducible rfl
                                    rotate_left
                                    · simp only [Act.put, List.setIfInBounds_toArray, List.set_cons_zero, List.set_cons_succ, i64_w, i32_w]
                                      rfl
                                    refine pure_ (i := 9) (N := some 75) (v := ?_) (a' := ?_) #[true, true, true, true, true, true, true, true, true, true, false] rfl rfl (any_of HT_.out (by kernel_rfl)) (fun _ _ _ h => h) (Or.inl ⟨by rfl, ?_⟩) ?_ ?_
                                    rotate_left
                                    · intro w'
                                      go_simp
                                      with_reducible rfl
                                    rotate_left
                                    · simp only [Act.put, List.setIfInBounds_toArray, List.set_cons_zero, List.set_cons_succ, i64_w, i32_w]
                                      rfl
                                    refine pure_ (i := 10) (N := some 18) (v := ?_) (a' := ?_) #[true, true, true, true, true, true, true, true, true, true, true] rfl rfl (any_of HT_.out (by kernel_rfl)) (fun _ _ _ h => h) (Or.inl ⟨by rfl, ?_⟩) ?_ ?_
                                    rotate_left
                                    · intro w'
                                      go_simp
                                      with_reducible rfl
                                    rotate_left
                                    · simp only [Act.put, List.setIfInBounds_toArray, List.set_cons_zero, List.set_cons_succ, i64_w, i32_w]
                                      rfl
                                    refine done_ (done_of HT_.out (by kernel_rfl)) ?_
                                    try go_wp2
                                    have n0_ := Aside0.mk (Kd.R_drew HO_10.out)
                                    have n1_ := Aside0.mk (Kd.R_drew HO_11.out)
                                    have n2_ := Aside0.mk (blk_drew BK154.out)
                                    have n3_ := Aside0.mk (below_drew1 HB.out)
                                    clear HO_10
                                    clear HO_11
                                    clear BK154
                                    clear HB
                                    have HO_10 := n0_
                                    have HO_11 := n1_
                                    have BK154 := n2_
                                    have HB := n3_
                                    clear n0_ n1_ n2_ n3_
                                    have p158 : 0 ≤ (x15_16 : Int) := of_decide_eq_true (by first | (with_reducible assumption) | assumption)
                                    have q158 : x15_16 < (x11_1.length : Int) := of_decide_eq_true (by first | (with_reducible assumption) | assumption)
                                    obtain ⟨ad158, e158, hx158_0⟩ := Kd.at_int (Kd.R_reads' HO_11.out).2.2 x15_16 p158 q158
                                    obtain rfl : ad157 = ad158 := (by injection e158)
                                    replace p158 := eq_true p158
                                    replace q158 := eq_true q158
                                    refine start_ (n := 11) (S := fun w' => w'.cell? ⟨gb154, 0, none⟩ = some (.int .i64 ((rd_T36 l0 x13_1).f0)) ∧ w'.cell? ⟨gb154, 1, none⟩ = some (.int .i64 ((rd_T36 l0 x13_1).f1)) ∧ w'.cell? ⟨gb154, 2, none⟩ = some (.int .i64 ((rd_T36 l0 x13_1).f2)) ∧ w'.cell? ⟨gb154, 3, none⟩ = some (.int .i64 ((rd_T36 l0 x13_1).f3)) ∧ w'.cell? ⟨gb154, 4, none⟩ = some (.int .i64 ((rd_T36 l0 x13_1).f4)) ∧ w'.cell? ⟨gb154, 5, none⟩ = some (.int .i64 ((rd_T36 l0 x13_1).f5)) ∧ w'.cell? (ad157.add (x15_16).toNat) = some (.int .i64 (rd x11_1 x15_16))) (ds := []) #[false, false, false, false, false, false, false, false, false, false, false] (by kernel_rfl) rfl rfl ⟨(blk_cell BK154.out 0).trans rfl, (blk_cell BK154.out 1).trans rfl, (blk_cell BK154.out 2).trans rfl, (blk_cell BK154.out 3).trans rfl, (blk_cell BK154.out 4).trans rfl, (blk_cell BK154.out 5).trans rfl, hx158_0⟩ (fun hHeld => ?_); refine with_tabW insolvencyref25_Trace.tab19 insolvencyref25_Trace.bits19 (fun HT_ HW_ => ?_)
                                    generalize w56.drew = w59 at HO_10 HO_11 BK154 HB hx158_0 hHeld ⊢
                                    refine pure_ (i := 0) (N := some 76) (v := ?_) (a' := ?_) #[true, false, false, false, false, false, false, false, false, false, false] rfl rfl (any_of HT_.out (by kernel_rfl)) (fun _ _ _ h => h) (Or.inl ⟨by rfl, ?_⟩) ?_ ?_
                                    rotate_left
                                    · intro w'
                                      go_simp
                                      with_reducible rfl
                                    rotate_left
                                    · simp only [Act.put, List.setIfInBounds_toArray, List.set_cons_zero, List.set_cons_succ, i64_w, i32_w]
                                      rfl
                                    refine pure_ (i := 2) (N := some 78) (v := ?_) (a' := ?_) #[true, false, true, false, false, false, false, false, false, false, false] rfl rfl (any_of HT_.out (by kernel_rfl)) (fun _ _ _ h => h) (Or.inl ⟨by rfl, ?_⟩) ?_ ?_
                                    rotate_left
                                    · intro w'
                                      go_simp
                                      with_reducible rfl
                                    rotate_left
                                    · simp only [Act.put, List.setIfInBounds_toArray, List.set_cons_zero, List.set_cons_succ, i64_w, i32_w]
                                      rfl
                                    refine pure_ (i := 5) (N := some 81) (v := ?_) (a' := ?_) #[true, false, true, false, false, true, false, false, false, false, false] rfl rfl (any_of HT_.out (by kernel_rfl)) (fun _ _ _ h => h) (Or.inl ⟨by rfl, ?_⟩) ?_ ?_
                                    rotate_left
                                    · intro w'
                                      go_simp
                                      with_reducible rfl
                                    rotate_left
                                    · simp only [Act.put, List.setIfInBounds_toArray, List.set_cons_zero, List.set_cons_succ, i64_w, i32_w]
                                      rfl
                                    refine pure_ (i := 6) (N := some 82) (v := ?_) (a' := ?_) #[true, false, true, false, false, true, true, false, false, false, false] rfl rfl (any_of HT_.out (by kernel_rfl)) (fun _ _ _ h => h) (Or.inl ⟨by rfl, ?_⟩) ?_ ?_
                                    rotate_left
                                    · intro w'
                                      go_simp
                                      with_reducible rfl
                                    rotate_left
                                    · simp only [Act.put, List.setIfInBounds_toArray, List.set_cons_zero, List.set_cons_succ, i64_w, i32_w]
                                      rfl
                                    refine pure_ (i := 7) (N := some 83) (v := ?_) (a' := ?_) #[true, false, true, false, false, true, true, true, false, false, false] rfl rfl (any_of HT_.out (by kernel_rfl)) (fun _ _ _ h => h) (Or.inl ⟨by rfl, ?_⟩) ?_ ?_
                                    rotate_left
                                    · intro w'
                                      go_simp
                                      with_reducible rfl
                                    rotate_left
                                    · simp only [Act.put, List.setIfInBounds_toArray, List.set_cons_zero, List.set_cons_succ, i64_w, i32_w]
                                      rfl
                                    refine take_ (i := 1) (N := some 77) (v := ?_) (a' := ?_) #[true, true, true, false, false, true, true, true, false, false, false] rfl rfl (take_ofW HT_.out HW_.out (by kernel_rfl)) (fun _ _ _ h => h) (Or.inl ⟨by rfl, ?_⟩) hHeld ?_ ?_
                                    rotate_left
                                    · rintro w' ⟨s0, s1, s2, s3, s4, s5, s6⟩
                                      go_simp
                                      with_reducible rfl
                                    rotate_left
                                    · simp only [Act.put, List.setIfInBounds_toArray, List.set_cons_zero, List.set_cons_succ, i64_w, i32_w]
                                      rfl
                                    refine pure_ (i := 3) (N := some 79) (v := ?_) (a' := ?_) #[true, true, true, true, false, true, true, true, false, false, false] rfl rfl (any_of HT_.out (by kernel_rfl)) (fun _ _ _ h => h) (Or.inl ⟨by rfl, ?_⟩) ?_ ?_
                                    rotate_left
                                    · intro w'
                                      go_simp
                                      with_reducible rfl
                                    rotate_left
                                    · simp only [Act.put, List.setIfInBounds_toArray, List.set_cons_zero, List.set_cons_succ, i64_w, i32_w]
                                      rfl
                                    refine pure_ (i := 4) (N := some 80) (v := ?_) (a' := ?_) #[true, true, true, true, true, true, true, true, false, false, false] rfl rfl (any_of HT_.out (by kernel_rfl)) (fun _ _ _ h => h) (Or.inl ⟨by rfl, ?_⟩) ?_ ?_
                                    rotate_left
                                    · intro w'
                                      go_simp
                                      with_reducible rfl
                                    rotate_left
                                    · simp only [Act.put, List.setIfInBounds_toArray, List.set_cons_zero, List.set_cons_succ, i64_w, i32_w]
                                      rfl
                                    refine take_ (i := 8) (N := some 84) (v := ?_) (a' := ?_) #[true, true, true, true, true, true, true, true, true, false, false] rfl rfl (take_ofW HT_.out HW_.out (by kernel_rfl)) (fun _ _ _ h => h) (Or.inl ⟨by rfl, ?_⟩) hHeld ?_ ?_
                                    rotate_left
                                    · rintro w' ⟨s0, s1, s2, s3, s4, s5, s6⟩
                                      go_simp
                                      with_reducible rfl
                                    rotate_left
                                    · simp only [Act.put, List.setIfInBounds_toArray, List.set_cons_zero, List.set_cons_succ, i64_w, i32_w]
                                      rfl
                                    refine pure_ (i := 9) (N := some 85) (v := ?_) (a' := ?_) #[true, true, true, true, true, true, true, true, true, true, false] rfl rfl (any_of HT_.out (by kernel_rfl)) (fun _ _ _ h => h) (Or.inl ⟨by rfl, ?_⟩) ?_ ?_
                                    rotate_left
                                    · intro w'
                                      go_simp
                                      with_reducible rfl
                                    rotate_left
                                    · simp only [Act.put, List.setIfInBounds_toArray, List.set_cons_zero, List.set_cons_succ, i64_w, i32_w]
                                      rfl
                                    refine pure_ (i := 10) (N := some 17) (v := ?_) (a' := ?_) #[true, true, true, true, true, true, true, true, true, true, true] rfl rfl (any_of HT_.out (by kernel_rfl)) (fun _ _ _ h => h) (Or.inl ⟨by rfl, ?_⟩) ?_ ?_
                                    rotate_left
                                    · intro w'
                                      go_simp
                                      with_reducible rfl
                                    rotate_left
                                    · simp only [Act.put, List.setIfInBounds_toArray, List.set_cons_zero, List.set_cons_succ, i64_w, i32_w]
                                      rfl
                                    refine done_ (done_of HT_.out (by kernel_rfl)) ?_
                                    have p159 : 0 ≤ (x15_16 : Int) := of_decide_eq_true (by first | (with_reducible assumption) | assumption)
                                    have q159 : x15_16 < (x11_1.length : Int) := of_decide_eq_true (by first | (with_reducible assumption) | assumption)
                                    obtain ⟨ad159, e159, hx159_0⟩ := Kd.at_int (Kd.R_reads' HO_11.out).2.2 x15_16 p159 q159
                                    obtain rfl : ad157 = ad159 := (by injection e159)
                                    replace p159 := eq_true p159
                                    replace q159 := eq_true q159
                                    have p42 : 0 ≤ (x15_16 : Int) := of_decide_eq_true (by first | (with_reducible assumption) | assumption)
                                    have q42 : (x15_16 : Int) < ((x11_1.length : Int) : Int) := of_decide_eq_true (by first | (with_reducible assumption) | assumption)
                                    obtain ⟨go42, co42, eo42, gb42, gl42, cl42, HG42⟩ := Kd.R_form HO_11.out (by omega)
                                    (first | cases eo42 | (injection eo42 with ea_ en_ ec_; (first | subst ea_ | (injection ea_ with ea_; subst ea_)); subst ec_; clear en_))
                                    have GB42 := Aside0.mk gb42
                                    have GG42 := Aside0.mk HG42
                                    clear gb42 gl42 HG42
                                    (first | simp only [add_plain] at hx157_0 | skip)
                                    (first | simp only [add_plain] at hx158_0 | skip)
                                    (first | simp only [add_plain] at hx159_0 | skip)
                                    obtain ⟨hx42_0, hf42_0⟩ := Kd.R_celln 0 HO_11.out (x15_16 : Int) p42 q42
                                    replace p42 := eq_true p42
                                    replace q42 := eq_true q42
                                    obtain ⟨hy60_, hz60_⟩ := Kd.R_celln 0 HO_11.out (x15_16 : Int) (of_decide_eq_true (by first | (with_reducible assumption) | assumption)) (of_decide_eq_true (by first | (with_reducible assumption) | assumption))
                                    have HP60 := Kd.R_putg HO_11.out (x15_16 : Int) (wrap64 ((rd x11_1 x15_16) - (ji41)))
                                    try go_wp2_with (first | ((with_reducible refine gate_store (t := 2) (p := 94) rfl ?_); refine store_event (t := 2) (p := 94) (v := ?vo_w61) (w1 := (w59.setCell ⟨go42, (x15_16 : Int).toNat, none⟩ (.int .i64 (wrap64 ((rd x11_1 x15_16) - (ji41)))))) ?hg ?ho ?hn ?hr ?_; (case ho => rfl); (case hg => rfl); (case hn => rfl); (case hr => first | (go_simp; done) | (go_simp; rfl)); intro w61 hw; have hg : w59.grownBy w61 (some go42) := (by rw [hw]; exact HP60.2); have hp_ : Kd.R (Kd.int .i64) 2 w61 w.heap.size (fun k_ => some k_ ≠ (.slice (some ad156) x10_1.length co57 : Value).ownBlock) (.slice (some ⟨go42, 0, none⟩) x11_1.length co58) y160 := (by rw [hw, Ny160.out]; exact HP60.1); clear HP60; have n0_ := Aside0.mk (Kd.R_after (v := (.slice (some ⟨go42, 0, none⟩) x11_1.length co58)) (v1 := (.slice (some ⟨go42, 0, none⟩) x11_1.length co58)) (ok := (fun _ => True)) (by (with_reducible repeat (first | apply Kd.R_alloc | apply Kd.R_drewN | apply Kd.R_drew)); exact Kd.R_mono HO_10.out (fun _ hk => ⟨trivial, hk⟩)) hg (.inl rfl)); have n1_ := Aside0.mk (hp_); have n2_ := Aside0.mk (blk_grown (g := gb154) (o := .cells #[.int .i64 ((rd_T36 l0 x13_1).f0), .int .i64 ((rd_T36 l0 x13_1).f1), .int .i64 ((rd_T36 l0 x13_1).f2), .int .i64 ((rd_T36 l0 x13_1).f3), .int .i64 ((rd_T36 l0 x13_1).f4), .int .i64 ((rd_T36 l0 x13_1).f5)] 36 (0, 0)) (by (with_reducible repeat (first | refine blk_drewN ?_ _ | refine blk_drew ?_ | refine blk_alloc ?_ _)); exact BK154.out) hg (Kd.R_ne HO_11.out BK154.out (by decide))); have n3_ := Aside0.mk ((by rw [hw]; exact below_set (HB.out) GB42.out : Below w.heap.size w w61)); clear HO_10; clear HO_11; clear BK154; clear HB; have HO_10 := n0_; have HO_11 := n1_; have BK154 := n2_; have HB := n3_; clear n0_ n1_ n2_ n3_; clear hg hw hp_; have hcz62_0 : w61.cell? ⟨gb154, 0, none⟩ = some (.int .i64 ((rd_T36 l0 x13_1).f0)) := (blk_cell BK154.out 0).trans rfl; have hcz62_1 : w61.cell? ⟨gb154, 1, none⟩ = some (.int .i64 ((rd_T36 l0 x13_1).f1)) := (blk_cell BK154.out 1).trans rfl; have hcz62_2 : w61.cell? ⟨gb154, 2, none⟩ = some (.int .i64 ((rd_T36 l0 x13_1).f2)) := (blk_cell BK154.out 2).trans rfl; have hcz62_3 : w61.cell? ⟨gb154, 3, none⟩ = some (.int .i64 ((rd_T36 l0 x13_1).f3)) := (blk_cell BK154.out 3).trans rfl; have hcz62_4 : w61.cell? ⟨gb154, 4, none⟩ = some (.int .i64 ((rd_T36 l0 x13_1).f4)) := (blk_cell BK154.out 4).trans rfl; have hcz62_5 : w61.cell? ⟨gb154, 5, none⟩ = some (.int .i64 ((rd_T36 l0 x13_1).f5)) := (blk_cell BK154.out 5).trans rfl; have hfz62_0 := blk_frozen BK154.out 0; have hfz62_1 := blk_frozen BK154.out 1; have hfz62_2 := blk_frozen BK154.out 2; have hfz62_3 := blk_frozen BK154.out 3; have hfz62_4 := blk_frozen BK154.out 4; have hfz62_5 := blk_frozen BK154.out 5))
                                    go_meet
                                    case rel => exact ⟨_, (y160), (wrap64 (x12_1 + (ji41))), (by first | rfl | (simp; done) | (simp only [← hji41] <;> (first | rfl | simp)) | (simp [*]; done)), H', ⟨by have := HK1.out; have := HJ16.out; first | omega | exact Nat.le_refl _⟩, ⟨by (with_reducible repeat (first | apply Kd.R_alloc | apply Kd.R_drewN | apply Kd.R_drew)); exact Kd.R_mono HO_10.out (fun _ hk => hk.2)⟩, ⟨by (with_reducible repeat (first | apply Kd.R_alloc | apply Kd.R_drewN | apply Kd.R_drew)); exact HO_11.out⟩, ⟨by (with_reducible repeat (first | refine blk_drewN ?_ _ | refine blk_drew ?_ | refine blk_alloc ?_ _)); exact BK154.out⟩, ⟨by repeat (first | (with_reducible first | exact HB.out | apply below_alloc | apply pw_below_drewN | apply below_drew1 | refine below_set ?_ GE154.out) | exact HB.out)⟩⟩
                                · rw [if_neg c39] at H
                                  exact absurd H (by simp)
                              · rw [if_neg c37] at H
                                exact absurd H (by simp)
                            · rw [if_neg c36] at H
                              exact absurd H (by simp)
                        case rest =>
                          clear HC27
                          try clear p1
                          try clear q1
                          try clear hx1
                          try clear c2
                          try clear p2
                          try clear c3
                          try clear p3
                          try clear q3
                          try clear hx3
                          try clear hf3
                          try clear c4
                          try clear p4
                          try clear q4
                          try clear hx4
                          try clear hf4
                          try clear p6
                          try clear p15
                          try clear q15
                          try clear hx15
                          try clear p16
                          try clear q16
                          try clear hx16
                          try clear c29
                          try clear c29b0
                          try clear c29b1
                          try clear c30
                          try clear c31
                          try clear p32
                          try clear q32
                          try clear hx32
                          try clear hf32
                          try clear c36
                          try clear c36b0
                          try clear c37
                          try clear c37b0
                          try clear c39
                          try clear c39b0
                          try clear p42
                          try clear q42
                          try clear hx42
                          try clear hf42
                          try clear c43
                          try clear c43b0
                          try clear c43b1
                          try clear c44
                          try clear c44b0
                          try clear c45
                          try clear c45b0
                          try clear p46
                          try clear q46
                          try clear hx46
                          try clear hf46
                          try clear hcz53_0
                          try clear hcz53_1
                          try clear hcz53_2
                          try clear hcz53_3
                          try clear hcz53_4
                          try clear hcz53_5
                          try clear hcz62_0
                          try clear hcz62_1
                          try clear hcz62_2
                          try clear hcz62_3
                          try clear hcz62_4
                          try clear hcz62_5
                          try clear hfz33_1
                          try clear hfz33_2
                          try clear hfz33_3
                          try clear hfz33_4
                          try clear hfz33_5
                          try clear hfz53_0
                          try clear hfz53_1
                          try clear hfz53_2
                          try clear hfz53_3
                          try clear hfz53_4
                          try clear hfz53_5
                          try clear hfz62_0
                          try clear hfz62_1
                          try clear hfz62_2
                          try clear hfz62_3
                          try clear hfz62_4
                          try clear hfz62_5
                          try clear hx156_0
                          try clear hx157_0
                          try clear hx158_0
                          try clear hx159_0
                          try clear hx161_0
                          try clear hx32_0
                          try clear hx42_0
                          try clear hx46_0
                          try clear p156
                          try clear p157
                          try clear p158
                          try clear p159
                          try clear p161
                          try clear p32
                          try clear p42
                          try clear p46
                          try clear q156
                          try clear q157
                          try clear q158
                          try clear q159
                          try clear q161
                          try clear q32
                          try clear q42
                          try clear q46
                          obtain ⟨kq, x11_26, x12_26, rfl, HA, HJ26, HO_10, HO_11, BK154, HB⟩ := hcut
                          cases kq with
                          | zero => exact absurd HA.out (by simp [insolvencyref25_Trace.j2])
                          | succ kj26 =>
                            have H := HA.out
                            clear HA
                            simp only [insolvencyref25_Trace.j2] at H
                            by_cases c63 : 0 ≤ x15_16
                            · rw [if_pos c63] at H
                              have c63b0 : decide (0 ≤ x15_16) = true := decide_eq_true c63
                              clear c63
                              by_cases c64 : x15_16 < (x10_1.length : Int)
                              · rw [if_pos c64] at H
                                have c64b0 : decide (x15_16 < (x10_1.length : Int)) = true := decide_eq_true c64
                                clear c64
                                obtain ⟨y164, hy164⟩ : ∃ y_ : List Int, y_ = (x10_1.set (x15_16 : Int).toNat (wrap64 ((rd x10_1 x15_16) - ((rd_T36 l0 x13_1).f4)))) := ⟨_, rfl⟩
                                replace H : (if 0 ≤ x16_16 then (if x16_16 < (x10_1.length : Int) then (insolvencyref25_Trace.l1 kj26 l0 a2 (y164.set (x16_16 : Int).toNat (wrap64 ((rd y164 x16_16) + ((rd_T36 l0 x13_1).f4)))) x11_26 x12_26 x13_1 0) else (none)) else (none)) = some (r1, r2, r3) := by first | (rw [hy164]; with_reducible exact H) | (have H2_ := (Option.bind_some _ _).symm.trans H; rw [hy164]; with_reducible exact H2_) | (have H2_ := (Option.bind_some _ _).symm.trans H; with_reducible exact H2_) | with_reducible exact H | (rw [hy164]; exact H) | exact H
                                have Ny164 := Aside0.mk hy164
                                clear hy164
                                by_cases c66 : 0 ≤ x16_16
                                · rw [if_pos c66] at H
                                  have c66b0 : decide (0 ≤ x16_16) = true := decide_eq_true c66
                                  clear c66
                                  by_cases c67 : x16_16 < (x10_1.length : Int)
                                  · rw [if_pos c67] at H
                                    have c67b0 : decide (x16_16 < (x10_1.length : Int)) = true := decide_eq_true c67
                                    clear c67
                                    obtain ⟨y166, hy166⟩ : ∃ y_ : List Int, y_ = (y164.set (x16_16 : Int).toNat (wrap64 ((rd y164 x16_16) + ((rd_T36 l0 x13_1).f4)))) := ⟨_, rfl⟩
                                    replace H : (insolvencyref25_Trace.l1 kj26 l0 a2 y166 x11_26 x12_26 x13_1 0) = some (r1, r2, r3) := by first | (rw [hy166]; with_reducible exact H) | (have H2_ := (Option.bind_some _ _).symm.trans H; rw [hy166]; with_reducible exact H2_) | (have H2_ := (Option.bind_some _ _).symm.trans H; with_reducible exact H2_) | with_reducible exact H | (rw [hy166]; exact H) | exact H
                                    have Ny166 := Aside0.mk hy166
                                    clear hy166
                                    have H' := Aside0.mk H
                                    clear H
                                    try go_wp2
                                    have n0_ := Aside0.mk (Kd.R_drew HO_10.out)
                                    have n1_ := Aside0.mk (Kd.R_drew HO_11.out)
                                    have n2_ := Aside0.mk (blk_drew BK154.out)
                                    have n3_ := Aside0.mk (below_drew1 HB.out)
                                    clear HO_10
                                    clear HO_11
                                    clear BK154
                                    clear HB
                                    have HO_10 := n0_
                                    have HO_11 := n1_
                                    have BK154 := n2_
                                    have HB := n3_
                                    clear n0_ n1_ n2_ n3_
                                    obtain ⟨Ao70, co70, eo70⟩ := Kd.R_slice HO_10.out
                                    (first | subst eo70 | (injection eo70 with f1_ f2_ f3_; have f4_ := f1_.symm; have f5_ := f3_.symm; clear f1_ f2_ f3_; subst f4_; subst f5_))
                                    have p163 : 0 ≤ (x15_16 : Int) := of_decide_eq_true (by first | (with_reducible assumption) | assumption)
                                    have q163 : x15_16 < (x10_1.length : Int) := of_decide_eq_true (by first | (with_reducible assumption) | assumption)
                                    obtain ⟨ad163, e163, hx163_0⟩ := Kd.at_int (Kd.R_reads' HO_10.out).2.2 x15_16 p163 q163
                                    cases e163
                                    replace p163 := eq_true p163
                                    replace q163 := eq_true q163
                                    have p65 : 0 ≤ (x15_16 : Int) := of_decide_eq_true (by first | (with_reducible assumption) | assumption)
                                    have q65 : (x15_16 : Int) < ((x10_1.length : Int) : Int) := of_decide_eq_true (by first | (with_reducible assumption) | assumption)
                                    obtain ⟨go65, co65, eo65, gb65, gl65, cl65, HG65⟩ := Kd.R_form HO_10.out (by omega)
                                    (first | cases eo65 | (injection eo65 with ea_ en_ ec_; (first | subst ea_ | (injection ea_ with ea_; subst ea_)); subst ec_; clear en_))
                                    have GB65 := Aside0.mk gb65
                                    have GG65 := Aside0.mk HG65
                                    clear gb65 gl65 HG65
                                    (first | simp only [add_plain] at hx163_0 | skip)
                                    obtain ⟨hx65_0, hf65_0⟩ := Kd.R_celln 0 HO_10.out (x15_16 : Int) p65 q65
                                    replace p65 := eq_true p65
                                    replace q65 := eq_true q65
                                    have HP71 := Kd.R_putn HO_10.out (x15_16 : Int) (wrap64 ((rd x10_1 x15_16) - ((rd_T36 l0 x13_1).f4)))
                                    rw [← Ny164.out] at HP71
                                    have HQ71 := Aside0.mk HP71
                                    clear HP71
                                    refine start_ (n := 11) (S := fun w' => w'.cell? ⟨gb154, 0, none⟩ = some (.int .i64 ((rd_T36 l0 x13_1).f0)) ∧ w'.cell? ⟨gb154, 1, none⟩ = some (.int .i64 ((rd_T36 l0 x13_1).f1)) ∧ w'.cell? ⟨gb154, 2, none⟩ = some (.int .i64 ((rd_T36 l0 x13_1).f2)) ∧ w'.cell? ⟨gb154, 3, none⟩ = some (.int .i64 ((rd_T36 l0 x13_1).f3)) ∧ w'.cell? ⟨gb154, 4, none⟩ = some (.int .i64 ((rd_T36 l0 x13_1).f4)) ∧ w'.cell? ⟨gb154, 5, none⟩ = some (.int .i64 ((rd_T36 l0 x13_1).f5)) ∧ w'.cell? ⟨go65, (x15_16).toNat, none⟩ = some (.int .i64 (rd x10_1 x15_16))) (ds := [10]) #[false, false, false, false, false, false, false, false, false, false, false] (by kernel_rfl) rfl rfl ⟨(blk_cell BK154.out 0).trans rfl, (blk_cell BK154.out 1).trans rfl, (blk_cell BK154.out 2).trans rfl, (blk_cell BK154.out 3).trans rfl, (blk_cell BK154.out 4).trans rfl, (blk_cell BK154.out 5).trans rfl, hx163_0⟩ (fun hHeld => ?_); refine with_tabW insolvencyref25_Trace.tab24 insolvencyref25_Trace.bits24 (fun HT_ HW_ => ?_)
                                    generalize wc.drew = w69 at HO_10 HO_11 BK154 HB GG65 HQ71 hf65_0 hx163_0 hx65_0 hHeld ⊢
                                    refine pure_ (i := 0) (N := some 110) (v := ?_) (a' := ?_) #[true, false, false, false, false, false, false, false, false, false, false] rfl rfl (any_of HT_.out (by kernel_rfl)) (fun _ _ _ h => h) (Or.inl ⟨by rfl, ?_⟩) ?_ ?_
                                    rotate_left
                                    · intro w'
                                      go_simp
                                      with_reducible rfl
                                    rotate_left
                                    · simp only [Act.put, List.setIfInBounds_toArray, List.set_cons_zero, List.set_cons_succ, i64_w, i32_w]
                                      rfl
                                    refine pure_ (i := 1) (N := some 111) (v := ?_) (a' := ?_) #[true, true, false, false, false, false, false, false, false, false, false] rfl rfl (any_of HT_.out (by kernel_rfl)) (fun _ _ _ h => h) (Or.inl ⟨by rfl, ?_⟩) ?_ ?_
                                    rotate_left
                                    · intro w'
                                      go_simp
                                      with_reducible rfl
                                    rotate_left
                                    · simp only [Act.put, List.setIfInBounds_toArray, List.set_cons_zero, List.set_cons_succ, i64_w, i32_w]
                                      rfl
                                    refine pure_ (i := 2) (N := some 112) (v := ?_) (a' := ?_) #[true, true, true, false, false, false, false, false, false, false, false] rfl rfl (any_of HT_.out (by kernel_rfl)) (fun _ _ _ h => h) (Or.inl ⟨by rfl, ?_⟩) ?_ ?_
                                    rotate_left
                                    · intro w'
                                      go_simp
                                      with_reducible rfl
                                    rotate_left
                                    · simp only [Act.put, List.setIfInBounds_toArray, List.set_cons_zero, List.set_cons_succ, i64_w, i32_w]
                                      rfl
                                    refine pure_ (i := 3) (N := some 113) (v := ?_) (a' := ?_) #[true, true, true, true, false, false, false, false, false, false, false] rfl rfl (any_of HT_.out (by kernel_rfl)) (fun _ _ _ h => h) (Or.inl ⟨by rfl, ?_⟩) ?_ ?_
                                    rotate_left
                                    · intro w'
                                      go_simp
                                      with_reducible rfl
                                    rotate_left
                                    · simp only [Act.put, List.setIfInBounds_toArray, List.set_cons_zero, List.set_cons_succ, i64_w, i32_w]
                                      rfl
                                    refine pure_ (i := 4) (N := some 114) (v := ?_) (a' := ?_) #[true, true, true, true, true, false, false, false, false, false, false] rfl rfl (any_of HT_.out (by kernel_rfl)) (fun _ _ _ h => h) (Or.inl ⟨by rfl, ?_⟩) ?_ ?_
                                    rotate_left
                                    · intro w'
                                      go_simp
                                      with_reducible rfl
                                    rotate_left
                                    · simp only [Act.put, List.setIfInBounds_toArray, List.set_cons_zero, List.set_cons_succ, i64_w, i32_w]
                                      rfl
                                    refine pure_ (i := 6) (N := some 116) (v := ?_) (a' := ?_) #[true, true, true, true, true, false, true, false, false, false, false] rfl rfl (any_of HT_.out (by kernel_rfl)) (fun _ _ _ h => h) (Or.inl ⟨by rfl, ?_⟩) ?_ ?_
                                    rotate_left
                                    · intro w'
                                      go_simp
                                      with_reducible rfl
                                    rotate_left
                                    · simp only [Act.put, List.setIfInBounds_toArray, List.set_cons_zero, List.set_cons_succ, i64_w, i32_w]
                                      rfl
                                    refine take_ (i := 5) (N := some 115) (v := ?_) (a' := ?_) #[true, true, true, true, true, true, true, false, false, false, false] rfl rfl (take_ofW HT_.out HW_.out (by kernel_rfl)) (fun _ _ _ h => h) (Or.inl ⟨by rfl, ?_⟩) hHeld ?_ ?_
                                    rotate_left
                                    · rintro w' ⟨s0, s1, s2, s3, s4, s5, s6⟩
                                      go_simp
                                      with_reducible rfl
                                    rotate_left
                                    · simp only [Act.put, List.setIfInBounds_toArray, List.set_cons_zero, List.set_cons_succ, i64_w, i32_w]
                                      rfl
                                    refine take_ (i := 7) (N := some 117) (v := ?_) (a' := ?_) #[true, true, true, true, true, true, true, true, false, false, false] rfl rfl (take_ofW HT_.out HW_.out (by kernel_rfl)) (fun _ _ _ h => h) (Or.inl ⟨by rfl, ?_⟩) hHeld ?_ ?_
                                    rotate_left
                                    · rintro w' ⟨s0, s1, s2, s3, s4, s5, s6⟩
                                      go_simp
                                      with_reducible rfl
                                    rotate_left
                                    · simp only [Act.put, List.setIfInBounds_toArray, List.set_cons_zero, List.set_cons_succ, i64_w, i32_w]
                                      rfl
                                    refine pure_ (i := 8) (N := some 118) (v := ?_) (a' := ?_) #[true, true, true, true, true, true, true, true, true, false, false] rfl rfl (any_of HT_.out (by kernel_rfl)) (fun _ _ _ h => h) (Or.inl ⟨by rfl, ?_⟩) ?_ ?_
                                    rotate_left
                                    · intro w'
                                      go_simp
                                      with_reducible rfl
                                    rotate_left
                                    · simp only [Act.put, List.setIfInBounds_toArray, List.set_cons_zero, List.set_cons_succ, i64_w, i32_w]
                                      rfl
                                    refine pure_ (i := 9) (N := some 119) (v := ?_) (a' := ?_) #[true, true, true, true, true, true, true, true, true, true, false] rfl rfl (any_of HT_.out (by kernel_rfl)) (fun _ _ _ h => h) (Or.inl ⟨by rfl, ?_⟩) ?_ ?_
                                    rotate_left
                                    · intro w'
                                      go_simp
                                      with_reducible rfl
                                    rotate_left
                                    · simp only [Act.put, List.setIfInBounds_toArray, List.set_cons_zero, List.set_cons_succ, i64_w, i32_w]
                                      rfl
                                    refine last_ (i := 10) (N := none) #[true, true, true, true, true, true, true, true, true, true, true] rfl rfl (one_of HT_.out (by kernel_rfl)) (by decide) (fun K hK => ?_)
                                    refine skip_ (w1 := ?_) (by rfl) rfl ?_ ?_
                                    rotate_left
                                    · go_simp
                                      rfl
                                    refine hK.out _ _ ?_
                                    clear hK K
                                    refine done_ (done_of HT_.out (by kernel_rfl)) ?_
                                    try go_wp2
                                    have n0_ : Aside0 (Kd.R (Kd.int .i64) 2 (w69.setCell ⟨go65, (x15_16 : Int).toNat, none⟩ (.int .i64 (wrap64 ((rd x10_1 x15_16) - ((rd_T36 l0 x13_1).f4))))) w.heap.size (fun k_ => some k_ ≠ (v151 : Value).ownBlock) (.slice (some ⟨go65, 0, none⟩) x10_1.length co70) y164) := ⟨by (with_reducible repeat (first | apply Kd.R_alloc | apply Kd.R_drewN | apply Kd.R_drew)); exact HQ71.out⟩
                                    have n1_ : Aside0 (Kd.R (Kd.int .i64) 2 (w69.setCell ⟨go65, (x15_16 : Int).toNat, none⟩ (.int .i64 (wrap64 ((rd x10_1 x15_16) - ((rd_T36 l0 x13_1).f4))))) w.heap.size (fun k_ => some k_ ≠ (.slice (some ⟨go65, 0, none⟩) x10_1.length co70 : Value).ownBlock) v151 x11_26) := ⟨by (with_reducible repeat (first | apply Kd.R_alloc | apply Kd.R_drewN | apply Kd.R_drew)); exact Kd.R_mono (Kd.R_far (p := ⟨go65, (x15_16 : Int).toNat, none⟩) (Kd.R_mono HO_11.out (fun k_ hk => (⟨hk, fun e_ => hk (by rw [e_]; rfl)⟩ : _ ∧ k_ ≠ go65))) (fun _ hk => hk.2) (.int .i64 (wrap64 ((rd x10_1 x15_16) - ((rd_T36 l0 x13_1).f4))))) (fun _ hk => hk.1)⟩
                                    have n2_ : Aside0 ((w69.setCell ⟨go65, (x15_16 : Int).toNat, none⟩ (.int .i64 (wrap64 ((rd x10_1 x15_16) - ((rd_T36 l0 x13_1).f4))))).heap[gb154]? = some (.cells #[.int .i64 ((rd_T36 l0 x13_1).f0), .int .i64 ((rd_T36 l0 x13_1).f1), .int .i64 ((rd_T36 l0 x13_1).f2), .int .i64 ((rd_T36 l0 x13_1).f3), .int .i64 ((rd_T36 l0 x13_1).f4), .int .i64 ((rd_T36 l0 x13_1).f5)] 36 (0, 0))) := ⟨by (with_reducible repeat (first | refine blk_drewN ?_ _ | refine blk_drew ?_ | refine blk_alloc ?_ _)); refine blk_far ?_ (by have h_ := Kd.R_ne HO_10.out BK154.out (by decide); intro e_; exact h_ (by rw [e_]; rfl)) _; (with_reducible repeat (first | refine blk_drewN ?_ _ | refine blk_drew ?_ | refine blk_alloc ?_ _)); exact BK154.out⟩
                                    have n3_ : Aside0 (Below w.heap.size w (w69.setCell ⟨go65, (x15_16 : Int).toNat, none⟩ (.int .i64 (wrap64 ((rd x10_1 x15_16) - ((rd_T36 l0 x13_1).f4)))))) := ⟨by repeat (first | (with_reducible first | exact HB.out | apply below_alloc | apply pw_below_drewN | apply below_drew1 | refine below_set ?_ GB65.out | refine below_set ?_ GE154.out) | exact HB.out)⟩
                                    (try clear HO_10)
                                    (try clear HO_11)
                                    (try clear BK154)
                                    (try clear HB)
                                    generalize (w69.setCell ⟨go65, (x15_16 : Int).toNat, none⟩ (.int .i64 (wrap64 ((rd x10_1 x15_16) - ((rd_T36 l0 x13_1).f4))))) = w72 at n0_ n1_ n2_ n3_ ⊢
                                    have HO_10 := n0_
                                    have HO_11 := n1_
                                    have BK154 := n2_
                                    have HB := n3_
                                    clear n0_ n1_ n2_ n3_
                                    have n0_ := Aside0.mk (Kd.R_drew HO_10.out)
                                    have n1_ := Aside0.mk (Kd.R_drew HO_11.out)
                                    have n2_ := Aside0.mk (blk_drew BK154.out)
                                    have n3_ := Aside0.mk (below_drew1 HB.out)
                                    clear HO_10
                                    clear HO_11
                                    clear BK154
                                    clear HB
                                    have HO_10 := n0_
                                    have HO_11 := n1_
                                    have BK154 := n2_
                                    have HB := n3_
                                    clear n0_ n1_ n2_ n3_
                                    have p165 : 0 ≤ (x16_16 : Int) := of_decide_eq_true (by first | (with_reducible assumption) | assumption)
                                    have q165 : x16_16 < (y164.length : Int) := (by have h_ : (x16_16 : Int) < ((x10_1.length : Int) : Int) := of_decide_eq_true (by first | (with_reducible assumption) | assumption); first | (have e_ := (Kd.R_reads' HO_10.out).1; omega) | simpa only [Ny164.out, List.length_set] using h_)
                                    have ql165 : ((x16_16 : Int) < ((x10_1.length : Int) : Int)) = True := eq_true (of_decide_eq_true (by first | (with_reducible assumption) | assumption))
                                    obtain ⟨ad165, e165, hx165_0⟩ := Kd.at_int (Kd.R_reads' HO_10.out).2.2 x16_16 p165 q165
                                    obtain rfl : (⟨go65, 0, none⟩ : Addr) = ad165 := (by injection e165)
                                    (first | simp only [add_plain] at hx165_0 | simp only [add_at] at hx165_0 | simp only [Addr.add, Nat.zero_add] at hx165_0 | skip)
                                    replace p165 := eq_true p165
                                    replace q165 := eq_true q165
                                    have p68 : 0 ≤ (x16_16 : Int) := of_decide_eq_true (by first | (with_reducible assumption) | assumption)
                                    have q68 : (x16_16 : Int) < ((x10_1.length : Int) : Int) := of_decide_eq_true (by first | (with_reducible assumption) | assumption)
                                    obtain ⟨hx68_0, hf68_0⟩ := Kd.R_celln 0 HO_10.out (x16_16 : Int) p68 q68
                                    replace p68 := eq_true p68
                                    replace q68 := eq_true q68
                                    have HP74 := Kd.R_putn HO_10.out (x16_16 : Int) (wrap64 ((rd y164 x16_16) + ((rd_T36 l0 x13_1).f4)))
                                    rw [← Ny166.out] at HP74
                                    have HQ74 := Aside0.mk HP74
                                    clear HP74
                                    refine start_ (n := 11) (S := fun w' => w'.cell? ⟨gb154, 0, none⟩ = some (.int .i64 ((rd_T36 l0 x13_1).f0)) ∧ w'.cell? ⟨gb154, 1, none⟩ = some (.int .i64 ((rd_T36 l0 x13_1).f1)) ∧ w'.cell? ⟨gb154, 2, none⟩ = some (.int .i64 ((rd_T36 l0 x13_1).f2)) ∧ w'.cell? ⟨gb154, 3, none⟩ = some (.int .i64 ((rd_T36 l0 x13_1).f3)) ∧ w'.cell? ⟨gb154, 4, none⟩ = some (.int .i64 ((rd_T36 l0 x13_1).f4)) ∧ w'.cell? ⟨gb154, 5, none⟩ = some (.int .i64 ((rd_T36 l0 x13_1).f5)) ∧ w'.cell? ⟨go65, (x16_16).toNat, none⟩ = some (.int .i64 (rd y164 x16_16))) (ds := [10]) #[false, false, false, false, false, false, false, false, false, false, false] (by kernel_rfl) rfl rfl ⟨(blk_cell BK154.out 0).trans rfl, (blk_cell BK154.out 1).trans rfl, (blk_cell BK154.out 2).trans rfl, (blk_cell BK154.out 3).trans rfl, (blk_cell BK154.out 4).trans rfl, (blk_cell BK154.out 5).trans rfl, hx165_0⟩ (fun hHeld => ?_); refine with_tabW insolvencyref25_Trace.tab25 insolvencyref25_Trace.bits25 (fun HT_ HW_ => ?_)
                                    generalize w72.drew = w73 at HO_10 HO_11 BK154 HB HQ71 HQ74 hf68_0 hx165_0 hx68_0 hHeld ⊢
                                    refine pure_ (i := 0) (N := some 120) (v := ?_) (a' := ?_) #[true, false, false, false, false, false, false, false, false, false, false] rfl rfl (any_of HT_.out (by kernel_rfl)) (fun _ _ _ h => h) (Or.inl ⟨by rfl, ?_⟩) ?_ ?_
                                    rotate_left
                                    · intro w'
                                      go_simp
                                      with_reducible rfl
                                    rotate_left
                                    · simp only [Act.put, List.setIfInBounds_toArray, List.set_cons_zero, List.set_cons_succ, i64_w, i32_w]
                                      rfl
                                    refine pure_ (i := 1) (N := some 121) (v := ?_) (a' := ?_) #[true, true, false, false, false, false, false, false, false, false, false] rfl rfl (any_of HT_.out (by kernel_rfl)) (fun _ _ _ h => h) (Or.inl ⟨by rfl, ?_⟩) ?_ ?_
                                    rotate_left
                                    · intro w'
                                      go_simp
                                      with_reducible rfl
                                    rotate_left
                                    · simp only [Act.put, List.setIfInBounds_toArray, List.set_cons_zero, List.set_cons_succ, i64_w, i32_w]
                                      rfl
                                    refine pure_ (i := 2) (N := some 122) (v := ?_) (a' := ?_) #[true, true, true, false, false, false, false, false, false, false, false] rfl rfl (any_of HT_.out (by kernel_rfl)) (fun _ _ _ h => h) (Or.inl ⟨by rfl, ?_⟩) ?_ ?_
                                    rotate_left
                                    · intro w'
                                      go_simp
                                      with_reducible rfl
                                    rotate_left
                                    · simp only [Act.put, List.setIfInBounds_toArray, List.set_cons_zero, List.set_cons_succ, i64_w, i32_w]
                                      rfl
                                    refine pure_ (i := 3) (N := some 123) (v := ?_) (a' := ?_) #[true, true, true, true, false, false, false, false, false, false, false] rfl rfl (any_of HT_.out (by kernel_rfl)) (fun _ _ _ h => h) (Or.inl ⟨by rfl, ?_⟩) ?_ ?_
                                    rotate_left
                                    · intro w'
                                      go_simp
                                      with_reducible rfl
                                    rotate_left
                                    · simp only [Act.put, List.setIfInBounds_toArray, List.set_cons_zero, List.set_cons_succ, i64_w, i32_w]
                                      rfl
                                    refine pure_ (i := 4) (N := some 124) (v := ?_) (a' := ?_) #[true, true, true, true, true, false, false, false, false, false, false] rfl rfl (any_of HT_.out (by kernel_rfl)) (fun _ _ _ h => h) (Or.inl ⟨by rfl, ?_⟩) ?_ ?_
                                    rotate_left
                                    · intro w'
                                      go_simp
                                      with_reducible rfl
                                    rotate_left
                                    · simp only [Act.put, List.setIfInBounds_toArray, List.set_cons_zero, List.set_cons_succ, i64_w, i32_w]
                                      rfl
                                    refine pure_ (i := 6) (N := some 126) (v := ?_) (a' := ?_) #[true, true, true, true, true, false, true, false, false, false, false] rfl rfl (any_of HT_.out (by kernel_rfl)) (fun _ _ _ h => h) (Or.inl ⟨by rfl, ?_⟩) ?_ ?_
                                    rotate_left
                                    · intro w'
                                      go_simp
                                      with_reducible rfl
                                    rotate_left
                                    · simp only [Act.put, List.setIfInBounds_toArray, List.set_cons_zero, List.set_cons_succ, i64_w, i32_w]
                                      rfl
                                    refine take_ (i := 5) (N := some 125) (v := ?_) (a' := ?_) #[true, true, true, true, true, true, true, false, false, false, false] rfl rfl (take_ofW HT_.out HW_.out (by kernel_rfl)) (fun _ _ _ h => h) (Or.inl ⟨by rfl, ?_⟩) hHeld ?_ ?_
                                    rotate_left
                                    · rintro w' ⟨s0, s1, s2, s3, s4, s5, s6⟩
                                      go_simp
                                      with_reducible rfl
                                    rotate_left
                                    · simp only [Act.put, List.setIfInBounds_toArray, List.set_cons_zero, List.set_cons_succ, i64_w, i32_w]
                                      rfl
                                    refine take_ (i := 7) (N := some 127) (v := ?_) (a' := ?_) #[true, true, true, true, true, true, true, true, false, false, false] rfl rfl (take_ofW HT_.out HW_.out (by kernel_rfl)) (fun _ _ _ h => h) (Or.inl ⟨by rfl, ?_⟩) hHeld ?_ ?_
                                    rotate_left
                                    · rintro w' ⟨s0, s1, s2, s3, s4, s5, s6⟩
                                      go_simp
                                      with_reducible rfl
                                    rotate_left
                                    · simp only [Act.put, List.setIfInBounds_toArray, List.set_cons_zero, List.set_cons_succ, i64_w, i32_w]
                                      rfl
                                    refine pure_ (i := 8) (N := some 128) (v := ?_) (a' := ?_) #[true, true, true, true, true, true, true, true, true, false, false] rfl rfl (any_of HT_.out (by kernel_rfl)) (fun _ _ _ h => h) (Or.inl ⟨by rfl, ?_⟩) ?_ ?_
                                    rotate_left
                                    · intro w'
                                      go_simp
                                      with_reducible rfl
                                    rotate_left
                                    · simp only [Act.put, List.setIfInBounds_toArray, List.set_cons_zero, List.set_cons_succ, i64_w, i32_w]
                                      rfl
                                    refine pure_ (i := 9) (N := some 129) (v := ?_) (a' := ?_) #[true, true, true, true, true, true, true, true, true, true, false] rfl rfl (any_of HT_.out (by kernel_rfl)) (fun _ _ _ h => h) (Or.inl ⟨by rfl, ?_⟩) ?_ ?_
                                    rotate_left
                                    · intro w'
                                      go_simp
                                      with_reducible rfl
                                    rotate_left
                                    · simp only [Act.put, List.setIfInBounds_toArray, List.set_cons_zero, List.set_cons_succ, i64_w, i32_w]
                                      rfl
                                    refine last_ (i := 10) (N := none) #[true, true, true, true, true, true, true, true, true, true, true] rfl rfl (one_of HT_.out (by kernel_rfl)) (by decide) (fun K hK => ?_)
                                    refine skip_ (w1 := ?_) (by rfl) rfl ?_ ?_
                                    rotate_left
                                    · go_simp
                                      rfl
                                    refine hK.out _ _ ?_
                                    clear hK K
                                    refine done_ (done_of HT_.out (by kernel_rfl)) ?_
                                    try go_wp2
                                    go_loopg [12, 19] kj26 (fun kq v12 v19 w' => ∃ (x11_4 : List Int) (x12_4 : Int) (x19_4 : Int), v12 = .int .i64 x12_4 ∧ v19 = .int .i64 x19_4 ∧ Aside0 (insolvencyref25_Trace.l1 kq l0 a2 y166 x11_4 x12_4 x13_1 x19_4 = some (r1, r2, r3)) ∧ Aside0 (kq ≤ kj26) ∧ Aside0 (Kd.R (Kd.int .i64) 2 w' w.heap.size (fun k_ => some k_ ≠ (v151 : Value).ownBlock) (.slice (some ⟨go65, 0, none⟩) x10_1.length co70) y166) ∧ Aside0 (Kd.R (Kd.int .i64) 2 w' w.heap.size (fun k_ => some k_ ≠ ((.slice (some ⟨go65, 0, none⟩) x10_1.length co70) : Value).ownBlock) v151 x11_4) ∧ Aside0 (w'.heap[gb154]? = some (.cells #[.int .i64 ((rd_T36 l0 x13_1).f0), .int .i64 ((rd_T36 l0 x13_1).f1), .int .i64 ((rd_T36 l0 x13_1).f2), .int .i64 ((rd_T36 l0 x13_1).f3), .int .i64 ((rd_T36 l0 x13_1).f4), .int .i64 ((rd_T36 l0 x13_1).f5)] 36 (0, 0))) ∧ Aside0 (Below w.heap.size w w'))
                                    case atStart => exact ⟨(x11_26), (x12_26), (0), (by first | rfl | (simp; done) | (simp [*]; done)), (by first | rfl | (simp; done) | (simp [*]; done)), H', ⟨Nat.le_refl _⟩, ⟨by (with_reducible repeat (first | apply Kd.R_alloc | apply Kd.R_drewN | apply Kd.R_drew)); exact HQ74.out⟩, ⟨by (with_reducible repeat (first | apply Kd.R_alloc | apply Kd.R_drewN | apply Kd.R_drew)); exact Kd.R_mono (Kd.R_far (p := ⟨go65, (x16_16 : Int).toNat, none⟩) (Kd.R_mono HO_11.out (fun k_ hk => (⟨hk, fun e_ => hk (by rw [e_]; rfl)⟩ : _ ∧ k_ ≠ go65))) (fun _ hk => hk.2) (.int .i64 (wrap64 ((rd y164 x16_16) + ((rd_T36 l0 x13_1).f4))))) (fun _ hk => hk.1)⟩, ⟨by (with_reducible repeat (first | refine blk_drewN ?_ _ | refine blk_drew ?_ | refine blk_alloc ?_ _)); refine blk_far ?_ (by have h_ := Kd.R_ne HO_10.out BK154.out (by decide); intro e_; exact h_ (by rw [e_]; rfl)) _; (with_reducible repeat (first | refine blk_drewN ?_ _ | refine blk_drew ?_ | refine blk_alloc ?_ _)); exact BK154.out⟩, ⟨by repeat (first | (with_reducible first | exact HB.out | apply below_alloc | apply pw_below_drewN | apply below_drew1 | refine below_set ?_ GB65.out | refine below_set ?_ GE154.out) | exact HB.out)⟩⟩
                                    case round =>
                                      clear H'
                                      try clear p1
                                      try clear q1
                                      try clear hx1
                                      try clear c2
                                      try clear p2
                                      try clear c3
                                      try clear p3
                                      try clear q3
                                      try clear hx3
                                      try clear hf3
                                      try clear c4
                                      try clear p4
                                      try clear q4
                                      try clear hx4
                                      try clear hf4
                                      try clear c6
                                      try clear p6
                                      try clear q6
                                      try clear hx6
                                      try clear hf6
                                      try clear p15
                                      try clear q15
                                      try clear hx15
                                      try clear p16
                                      try clear q16
                                      try clear hx16
                                      try clear c29
                                      try clear c29b0
                                      try clear c29b1
                                      try clear c30
                                      try clear c31
                                      try clear p32
                                      try clear q32
                                      try clear hx32
                                      try clear hf32
                                      try clear c36
                                      try clear c36b0
                                      try clear c37
                                      try clear c37b0
                                      try clear c39
                                      try clear c39b0
                                      try clear p42
                                      try clear q42
                                      try clear hx42
                                      try clear hf42
                                      try clear c43
                                      try clear c43b0
                                      try clear c43b1
                                      try clear c44
                                      try clear c44b0
                                      try clear c45
                                      try clear c45b0
                                      try clear p46
                                      try clear q46
                                      try clear hx46
                                      try clear hf46
                                      try clear c63
                                      try clear c63b0
                                      try clear c64
                                      try clear c64b0
                                      try clear p64
                                      try clear p65
                                      try clear q65
                                      try clear hx65
                                      try clear hf65
                                      try clear c66
                                      try clear c66b0
                                      try clear c67
                                      try clear c67b0
                                      try clear p68
                                      try clear q68
                                      try clear hx68
                                      try clear hf68
                                      try clear hcz53_0
                                      try clear hcz53_1
                                      try clear hcz53_2
                                      try clear hcz53_3
                                      try clear hcz53_4
                                      try clear hcz53_5
                                      try clear hcz62_0
                                      try clear hcz62_1
                                      try clear hcz62_2
                                      try clear hcz62_3
                                      try clear hcz62_4
                                      try clear hcz62_5
                                      try clear hfz33_1
                                      try clear hfz33_2
                                      try clear hfz33_3
                                      try clear hfz33_4
                                      try clear hfz33_5
                                      try clear hfz53_0
                                      try clear hfz53_1
                                      try clear hfz53_2
                                      try clear hfz53_3
                                      try clear hfz53_4
                                      try clear hfz53_5
                                      try clear hfz62_0
                                      try clear hfz62_1
                                      try clear hfz62_2
                                      try clear hfz62_3
                                      try clear hfz62_4
                                      try clear hfz62_5
                                      try clear hx156_0
                                      try clear hx157_0
                                      try clear hx158_0
                                      try clear hx159_0
                                      try clear hx161_0
                                      try clear hx163_0
                                      try clear hx165_0
                                      try clear hx32_0
                                      try clear hx42_0
                                      try clear hx46_0
                                      try clear hx65_0
                                      try clear hx68_0
                                      try clear p1
                                      try clear p15
                                      try clear p156
                                      try clear p157
                                      try clear p158
                                      try clear p159
                                      try clear p16
                                      try clear p161
                                      try clear p163
                                      try clear p165
                                      try clear p2
                                      try clear p3
                                      try clear p32
                                      try clear p4
                                      try clear p42
                                      try clear p46
                                      try clear p6
                                      try clear p65
                                      try clear p68
                                      try clear q1
                                      try clear q15
                                      try clear q156
                                      try clear q157
                                      try clear q158
                                      try clear q159
                                      try clear q16
                                      try clear q161
                                      try clear q163
                                      try clear q165
                                      try clear q3
                                      try clear q32
                                      try clear q4
                                      try clear q42
                                      try clear q46
                                      try clear q65
                                      try clear q68
                                      obtain ⟨x11_4, x12_4, x19_4, rfl, rfl, HA, HK4, HO_10, HO_11, BK154, HB⟩ := hrel
                                      have hl10_4 := (Kd.R_reads' HO_10.out).1
                                      rw [hl10_4] at HO_10
                                      (try simp only [hl10_4])
                                      (try simp only [hl10_4] at BK154)
                                      (try simp only [hl10_4] at HO_11)
                                      cases gk with
                                      | zero => exact absurd HA.out (by simp [insolvencyref25_Trace.l1])
                                      | succ k4 =>
                                        have H := HA.out
                                        clear HA
                                        simp only [insolvencyref25_Trace.l1] at H
                                        by_cases c75 : x19_4 < (x11_4.length : Int)
                                        · rw [if_pos c75] at H
                                          have c75b0 : decide (x19_4 < (x11_4.length : Int)) = true := decide_eq_true c75
                                          clear c75
                                          by_cases c76 : 0 ≤ x19_4
                                          · rw [if_pos c76] at H
                                            have c76b0 : decide (0 ≤ x19_4) = true := decide_eq_true c76
                                            clear c76
                                            by_cases c77 : x19_4 < (y166.length : Int)
                                            · rw [if_pos c77] at H
                                              have c77b0 : decide (x19_4 < (y166.length : Int)) = true := decide_eq_true c77
                                              clear c77
                                              obtain ⟨ji78, hji78⟩ : ∃ j_ : Int, (mx (rd y166 x19_4) 0) = j_ := ⟨_, rfl⟩
                                              replace H : (insolvencyref25_Trace.l1 k4 l0 a2 y166 (x11_4.set (x19_4 : Int).toNat (wrap64 ((rd x11_4 x19_4) - (mx (wrap64 ((rd x11_4 x19_4) - (ji78))) 0)))) (wrap64 (x12_4 + (mx (wrap64 ((rd x11_4 x19_4) - (ji78))) 0))) x13_1 (wrap64 (x19_4 + 1))) = some (r1, r2, r3) := by first | (rw [hji78] at H; exact H) | (simp only [hji78] at H ⊢; exact H)
                                              have hji78_ : (if (rd y166 x19_4) < 0 then 0 else (rd y166 x19_4)) = ji78 := hji78
                                              obtain ⟨ji79, hji79⟩ : ∃ j_ : Int, (mx (wrap64 ((rd x11_4 x19_4) - (ji78))) 0) = j_ := ⟨_, rfl⟩
                                              replace H : (insolvencyref25_Trace.l1 k4 l0 a2 y166 (x11_4.set (x19_4 : Int).toNat (wrap64 ((rd x11_4 x19_4) - (ji79)))) (wrap64 (x12_4 + (ji79))) x13_1 (wrap64 (x19_4 + 1))) = some (r1, r2, r3) := by first | (rw [hji79] at H; exact H) | (simp only [hji79] at H ⊢; exact H)
                                              have hji79_ : (if (wrap64 ((rd x11_4 x19_4) - (ji78))) < 0 then 0 else (wrap64 ((rd x11_4 x19_4) - (ji78)))) = ji79 := hji79
                                              obtain ⟨y170, hy170⟩ : ∃ y_ : List Int, y_ = (x11_4.set (x19_4 : Int).toNat (wrap64 ((rd x11_4 x19_4) - (ji79)))) := ⟨_, rfl⟩
                                              replace H : (insolvencyref25_Trace.l1 k4 l0 a2 y166 y170 (wrap64 (x12_4 + (ji79))) x13_1 (wrap64 (x19_4 + 1))) = some (r1, r2, r3) := by first | (rw [hy170]; with_reducible exact H) | (have H2_ := (Option.bind_some _ _).symm.trans H; rw [hy170]; with_reducible exact H2_) | (have H2_ := (Option.bind_some _ _).symm.trans H; with_reducible exact H2_) | with_reducible exact H | (rw [hy170]; exact H) | exact H
                                              have Ny170 := Aside0.mk hy170
                                              clear hy170
                                              have H' := Aside0.mk H
                                              clear H
                                              obtain ⟨Ao81, co81, eo81⟩ := Kd.R_slice HO_11.out
                                              subst eo81
                                              try go_wp2
                                              have n0_ := Aside0.mk (Kd.R_drew HO_10.out)
                                              have n1_ := Aside0.mk (Kd.R_drew HO_11.out)
                                              have n2_ := Aside0.mk (blk_drew BK154.out)
                                              have n3_ := Aside0.mk (below_drew1 HB.out)
                                              clear HO_10
                                              clear HO_11
                                              clear BK154
                                              clear HB
                                              have HO_10 := n0_
                                              have HO_11 := n1_
                                              have BK154 := n2_
                                              have HB := n3_
                                              clear n0_ n1_ n2_ n3_
                                              have p167 : 0 ≤ (x19_4 : Int) := of_decide_eq_true (by first | (with_reducible assumption) | assumption)
                                              have q167 : x19_4 < (x11_4.length : Int) := of_decide_eq_true (by first | (with_reducible assumption) | assumption)
                                              obtain ⟨ad167, e167, hx167_0⟩ := Kd.at_int (Kd.R_reads' HO_11.out).2.2 x19_4 p167 q167
                                              cases e167
                                              replace p167 := eq_true p167
                                              replace q167 := eq_true q167
                                              have p168 : 0 ≤ (x19_4 : Int) := of_decide_eq_true (by first | (with_reducible assumption) | assumption)
                                              have q168 : x19_4 < (y166.length : Int) := of_decide_eq_true (by first | (with_reducible assumption) | assumption)
                                              obtain ⟨ad168, e168, hx168_0⟩ := Kd.at_int (Kd.R_reads' HO_10.out).2.2 x19_4 p168 q168
                                              obtain rfl : (⟨go65, 0, none⟩ : Addr) = ad168 := (by injection e168)
                                              (first | simp only [add_plain] at hx168_0 | simp only [add_at] at hx168_0 | simp only [Addr.add, Nat.zero_add] at hx168_0 | skip)
                                              replace p168 := eq_true p168
                                              replace q168 := eq_true q168
                                              refine start_ (n := 12) (S := fun w' => w'.cell? (ad167.add (x19_4).toNat) = some (.int .i64 (rd x11_4 x19_4)) ∧ w'.cell? ⟨go65, (x19_4).toNat, none⟩ = some (.int .i64 (rd y166 x19_4))) (ds := []) #[false, false, false, false, false, false, false, false, false, false, false, false] (by kernel_rfl) rfl rfl ⟨hx167_0, hx168_0⟩ (fun hHeld => ?_); refine with_tabW insolvencyref25_Trace.tab29 insolvencyref25_Trace.bits29 (fun HT_ HW_ => ?_)
                                              generalize wr.drew = w82 at HO_10 HO_11 BK154 HB hx167_0 hx168_0 hHeld ⊢
                                              refine pure_ (i := 0) (N := some 136) (v := ?_) (a' := ?_) #[true, false, false, false, false, false, false, false, false, false, false, false] rfl rfl (any_of HT_.out (by kernel_rfl)) (fun _ _ _ h => h) (Or.inl ⟨by rfl, ?_⟩) ?_ ?_
                                              rotate_left
                                              · intro w'
                                                go_simp
                                                with_reducible rfl
                                              rotate_left
                                              · simp only [Act.put, List.setIfInBounds_toArray, List.set_cons_zero, List.set_cons_succ, i64_w, i32_w]
                                                rfl
                                              refine pure_ (i := 1) (N := some 137) (v := ?_) (a' := ?_) #[true, true, false, false, false, false, false, false, false, false, false, false] rfl rfl (any_of HT_.out (by kernel_rfl)) (fun _ _ _ h => h) (Or.inl ⟨by rfl, ?_⟩) ?_ ?_
                                              rotate_left
                                              · intro w'
                                                go_simp
                                                with_reducible rfl
                                              rotate_left
                                              · simp only [Act.put, List.setIfInBounds_toArray, List.set_cons_zero, List.set_cons_succ, i64_w, i32_w]
                                                rfl
                                              refine pure_ (i := 2) (N := some 138) (v := ?_) (a' := ?_) #[true, true, true, false, false, false, false, false, false, false, false, false] rfl rfl (any_of HT_.out (by kernel_rfl)) (fun _ _ _ h => h) (Or.inl ⟨by rfl, ?_⟩) ?_ ?_
                                              rotate_left
                                              · intro w'
                                                go_simp
                                                with_reducible rfl
                                              rotate_left
                                              · simp only [Act.put, List.setIfInBounds_toArray, List.set_cons_zero, List.set_cons_succ, i64_w, i32_w]
                                                rfl
                                              refine pure_ (i := 4) (N := some 140) (v := ?_) (a' := ?_) #[true, true, true, false, true, false, false, false, false, false, false, false] rfl rfl (any_of HT_.out (by kernel_rfl)) (fun _ _ _ h => h) (Or.inl ⟨by rfl, ?_⟩) ?_ ?_
                                              rotate_left
                                              · intro w'
                                                go_simp
                                                with_reducible rfl
                                              rotate_left
                                              · simp only [Act.put, List.setIfInBounds_toArray, List.set_cons_zero, List.set_cons_succ, i64_w, i32_w]
                                                rfl
                                              refine pure_ (i := 5) (N := some 141) (v := ?_) (a' := ?_) #[true, true, true, false, true, true, false, false, false, false, false, false] rfl rfl (any_of HT_.out (by kernel_rfl)) (fun _ _ _ h => h) (Or.inl ⟨by rfl, ?_⟩) ?_ ?_
                                              rotate_left
                                              · intro w'
                                                go_simp
                                                with_reducible rfl
                                              rotate_left
                                              · simp only [Act.put, List.setIfInBounds_toArray, List.set_cons_zero, List.set_cons_succ, i64_w, i32_w]
                                                rfl
                                              refine pure_ (i := 6) (N := some 142) (v := ?_) (a' := ?_) #[true, true, true, false, true, true, true, false, false, false, false, false] rfl rfl (any_of HT_.out (by kernel_rfl)) (fun _ _ _ h => h) (Or.inl ⟨by rfl, ?_⟩) ?_ ?_
                                              rotate_left
                                              · intro w'
                                                go_simp
                                                with_reducible rfl
                                              rotate_left
                                              · simp only [Act.put, List.setIfInBounds_toArray, List.set_cons_zero, List.set_cons_succ, i64_w, i32_w]
                                                rfl
                                              refine take_ (i := 3) (N := some 139) (v := ?_) (a' := ?_) #[true, true, true, true, true, true, true, false, false, false, false, false] rfl rfl (take_ofW HT_.out HW_.out (by kernel_rfl)) (fun _ _ _ h => h) (Or.inl ⟨by rfl, ?_⟩) hHeld ?_ ?_
                                              rotate_left
                                              · rintro w' ⟨s0, s1⟩
                                                go_simp
                                                with_reducible rfl
                                              rotate_left
                                              · simp only [Act.put, List.setIfInBounds_toArray, List.set_cons_zero, List.set_cons_succ, i64_w, i32_w]
                                                rfl
                                              refine take_ (i := 7) (N := some 143) (v := ?_) (a' := ?_) #[true, true, true, true, true, true, true, true, false, false, false, false] rfl rfl (take_ofW HT_.out HW_.out (by kernel_rfl)) (fun _ _ _ h => h) (Or.inl ⟨by rfl, ?_⟩) hHeld ?_ ?_
                                              rotate_left
                                              · rintro w' ⟨s0, s1⟩
                                                go_simp
                                                with_reducible rfl
                                              rotate_left
                                              · simp only [Act.put, List.setIfInBounds_toArray, List.set_cons_zero, List.set_cons_succ, i64_w, i32_w]
                                                rfl
                                              refine pure_ (i := 8) (N := some 144) (v := ?_) (a' := ?_) #[true, true, true, true, true, true, true, true, true, false, false, false] rfl rfl (any_of HT_.out (by kernel_rfl)) (fun _ _ _ h => h) (Or.inl ⟨by rfl, ?_⟩) ?_ ?_
                                              rotate_left
                                              · intro w'
                                                go_simp
                                                with_reducible rfl
                                              rotate_left
                                              · simp only [Act.put, List.setIfInBounds_toArray, List.set_cons_zero, List.set_cons_succ, i64_w, i32_w]
                                                rfl
                                              refine pure_ (i := 9) (N := some 145) (v := ?_) (a' := ?_) #[true, true, true, true, true, true, true, true, true, true, false, false] rfl rfl (any_of HT_.out (by kernel_rfl)) (fun _ _ _ h => h) (Or.inl ⟨by rfl, ?_⟩) ?_ ?_
                                              rotate_left
                                              · intro w'
                                                go_simp
                                                with_reducible rfl
                                              rotate_left
                                              · simp only [Act.put, List.setIfInBounds_toArray, List.set_cons_zero, List.set_cons_succ, i64_w, i32_w]
                                                rfl
                                              refine pure_ (i := 10) (N := some 146) (v := ?_) (a' := ?_) #[true, true, true, true, true, true, true, true, true, true, true, false] rfl rfl (any_of HT_.out (by kernel_rfl)) (fun _ _ _ h => h) (Or.inl ⟨by rfl, ?_⟩) ?_ ?_
                                              rotate_left
                                              · intro w'
                                                go_simp
                                                with_reducible rfl
                                              rotate_left
                                              · simp only [Act.put, List.setIfInBounds_toArray, List.set_cons_zero, List.set_cons_succ, i64_w, i32_w]
                                                rfl
                                              refine pure_ (i := 11) (N := some 20) (v := ?_) (a' := ?_) #[true, true, true, true, true, true, true, true, true, true, true, true] rfl rfl (any_of HT_.out (by kernel_rfl)) (fun _ _ _ h => h) (Or.inl ⟨by rfl, ?_⟩) ?_ ?_
                                              rotate_left
                                              · intro w'
                                                go_simp
                                                with_reducible rfl
                                              rotate_left
                                              · simp only [Act.put, List.setIfInBounds_toArray, List.set_cons_zero, List.set_cons_succ, i64_w, i32_w]
                                                rfl
                                              refine done_ (done_of HT_.out (by kernel_rfl)) ?_
                                              have p169 : 0 ≤ (x19_4 : Int) := of_decide_eq_true (by first | (with_reducible assumption) | assumption)
                                              have q169 : x19_4 < (x11_4.length : Int) := of_decide_eq_true (by first | (with_reducible assumption) | assumption)
                                              obtain ⟨ad169, e169, hx169_0⟩ := Kd.at_int (Kd.R_reads' HO_11.out).2.2 x19_4 p169 q169
                                              obtain rfl : ad167 = ad169 := (by injection e169)
                                              replace p169 := eq_true p169
                                              replace q169 := eq_true q169
                                              have p80 : 0 ≤ (x19_4 : Int) := of_decide_eq_true (by first | (with_reducible assumption) | assumption)
                                              have q80 : (x19_4 : Int) < ((x11_4.length : Int) : Int) := of_decide_eq_true (by first | (with_reducible assumption) | assumption)
                                              obtain ⟨go80, co80, eo80, gb80, gl80, cl80, HG80⟩ := Kd.R_form HO_11.out (by omega)
                                              (first | cases eo80 | (injection eo80 with ea_ en_ ec_; (first | subst ea_ | (injection ea_ with ea_; subst ea_)); subst ec_; clear en_))
                                              have GB80 := Aside0.mk gb80
                                              have GG80 := Aside0.mk HG80
                                              clear gb80 gl80 HG80
                                              (first | simp only [add_plain] at hx167_0 | skip)
                                              (first | simp only [add_plain] at hx169_0 | skip)
                                              obtain ⟨hx80_0, hf80_0⟩ := Kd.R_celln 0 HO_11.out (x19_4 : Int) p80 q80
                                              replace p80 := eq_true p80
                                              replace q80 := eq_true q80
                                              obtain ⟨hy83_, hz83_⟩ := Kd.R_celln 0 HO_11.out (x19_4 : Int) (of_decide_eq_true (by first | (with_reducible assumption) | assumption)) (of_decide_eq_true (by first | (with_reducible assumption) | assumption))
                                              have HP83 := Kd.R_putg HO_11.out (x19_4 : Int) (wrap64 ((rd x11_4 x19_4) - (ji79)))
                                              try go_wp2_with (first | ((with_reducible refine gate_store (t := 2) (p := 155) rfl ?_); refine store_event (t := 2) (p := 155) (v := ?vo_w84) (w1 := (w82.setCell ⟨go80, (x19_4 : Int).toNat, none⟩ (.int .i64 (wrap64 ((rd x11_4 x19_4) - (ji79)))))) ?hg ?ho ?hn ?hr ?_; (case ho => rfl); (case hg => rfl); (case hn => rfl); (case hr => first | (go_simp; done) | (go_simp; rfl)); intro w84 hw; have hg : w82.grownBy w84 (some go80) := (by rw [hw]; exact HP83.2); have hp_ : Kd.R (Kd.int .i64) 2 w84 w.heap.size (fun k_ => some k_ ≠ (.slice (some ⟨go65, 0, none⟩) y166.length co70 : Value).ownBlock) (.slice (some ⟨go80, 0, none⟩) x11_4.length co81) y170 := (by rw [hw, Ny170.out]; exact HP83.1); clear HP83; have n0_ := Aside0.mk (Kd.R_after (v := (.slice (some ⟨go80, 0, none⟩) x11_4.length co81)) (v1 := (.slice (some ⟨go80, 0, none⟩) x11_4.length co81)) (ok := (fun _ => True)) (by (with_reducible repeat (first | apply Kd.R_alloc | apply Kd.R_drewN | apply Kd.R_drew)); exact Kd.R_mono HO_10.out (fun _ hk => ⟨trivial, hk⟩)) hg (.inl rfl)); have n1_ := Aside0.mk (hp_); have n2_ := Aside0.mk (blk_grown (g := gb154) (o := .cells #[.int .i64 ((rd_T36 l0 x13_1).f0), .int .i64 ((rd_T36 l0 x13_1).f1), .int .i64 ((rd_T36 l0 x13_1).f2), .int .i64 ((rd_T36 l0 x13_1).f3), .int .i64 ((rd_T36 l0 x13_1).f4), .int .i64 ((rd_T36 l0 x13_1).f5)] 36 (0, 0)) (by (with_reducible repeat (first | refine blk_drewN ?_ _ | refine blk_drew ?_ | refine blk_alloc ?_ _)); exact BK154.out) hg (Kd.R_ne HO_11.out BK154.out (by decide))); have n3_ := Aside0.mk ((by rw [hw]; exact below_set (HB.out) GB80.out : Below w.heap.size w w84)); clear HO_10; clear HO_11; clear BK154; clear HB; have HO_10 := n0_; have HO_11 := n1_; have BK154 := n2_; have HB := n3_; clear n0_ n1_ n2_ n3_; clear hg hw hp_))
                                              (try simp only [← hl10_4])
                                              go_roundg k4
                                              case measure => have := HK1.out; have := HJ16.out; have := HJ26.out; have := HK4.out; omega
                                              case rel => exact ⟨(y170), (wrap64 (x12_4 + (ji79))), (wrap64 (x19_4 + 1)), (by first | rfl | (simp; done) | (simp only [← hji79] <;> (first | rfl | simp)) | (simp [*]; done)), (by first | rfl | (simp; done) | (simp [*]; done)), H', ⟨by have := HK1.out; have := HJ16.out; have := HJ26.out; have := HK4.out; omega⟩, ⟨by (try simp only [hl10_4]); (with_reducible repeat (first | apply Kd.R_alloc | apply Kd.R_drewN | apply Kd.R_drew)); exact Kd.R_mono HO_10.out (fun _ hk => hk.2)⟩, ⟨by (try simp only [hl10_4]); (with_reducible repeat (first | apply Kd.R_alloc | apply Kd.R_drewN | apply Kd.R_drew)); exact HO_11.out⟩, ⟨by (try simp only [hl10_4]); (with_reducible repeat (first | refine blk_drewN ?_ _ | refine blk_drew ?_ | refine blk_alloc ?_ _)); exact BK154.out⟩, ⟨by repeat (first | (with_reducible first | exact HB.out | apply below_alloc | apply pw_below_drewN | apply below_drew1 | refine below_set ?_ GE154.out) | exact HB.out)⟩⟩
                                            · rw [if_neg c77] at H
                                              exact absurd H (by simp)
                                          · rw [if_neg c76] at H
                                            exact absurd H (by simp)
                                        · rw [if_neg c75] at H
                                          have c75b0 : decide (x19_4 < (x11_4.length : Int)) = false := decide_eq_false c75
                                          clear c75
                                          have H' := Aside0.mk H
                                          clear H
                                          obtain ⟨Ao85, co85, eo85⟩ := Kd.R_slice HO_11.out
                                          subst eo85
                                          go_wp2
                                          (try simp only [← hl10_4])
                                          go_roundg k4
                                          case measure => have := HK1.out; have := HJ16.out; have := HJ26.out; have := HK4.out; omega
                                          case rel => exact ⟨(y166), (x11_4), (x12_4), (wrap64 (x13_1 + 1)), (by first | rfl | (simp; done) | (simp [*]; done)), (by first | rfl | (simp; done) | (simp [*]; done)), H', ⟨by have := HK1.out; have := HJ16.out; have := HJ26.out; have := HK4.out; omega⟩, ⟨by (try simp only [hl10_4]); (with_reducible repeat (first | apply Kd.R_alloc | apply Kd.R_drewN | apply Kd.R_drew)); exact HO_10.out⟩, ⟨by (try simp only [hl10_4]); (with_reducible repeat (first | apply Kd.R_alloc | apply Kd.R_drewN | apply Kd.R_drew)); exact HO_11.out⟩, ⟨by repeat (first | (with_reducible first | exact HB.out | apply below_alloc | apply pw_below_drewN | apply below_drew1 | refine below_set ?_ GE154.out) | exact HB.out)⟩⟩
                                  · rw [if_neg c67] at H
                                    exact absurd H (by simp)
                                · rw [if_neg c66] at H
                                  exact absurd H (by simp)
                              · rw [if_neg c64] at H
                                exact absurd H (by simp)
                            · rw [if_neg c63] at H
                              exact absurd H (by simp)
                · rw [if_neg c16] at H
                  exact absurd H (by simp)
              · rw [if_neg c15] at H
                have c15b0 : decide (x13_1 < (l0.length : Int)) = false := decide_eq_false c15
                clear c15
                simp only [Option.some.injEq, Prod.mk.injEq] at H
                obtain ⟨rfl, rfl, rfl⟩ := H
                go_wp2
                go_ret3
                exact ⟨_, by first | rfl | (simp [errW_none, errW_some] <;> rfl) | (simp [*, errW_none, errW_some] <;> rfl), by (with_reducible repeat (first | apply Kd.R_alloc | apply Kd.R_drewN | apply Kd.R_drew)); exact Kd.R_mono HO_11.out (fun _ hk => trivial), by repeat (first | (with_reducible first | exact HB.out | apply below_alloc | apply pw_below_drewN | apply below_drew1) | exact HB.out)⟩
        · rw [if_neg c8] at H
          exact absurd H (by simp)
      · rw [if_neg c7] at H
        exact absurd H (by simp)
    · rw [if_neg c6] at H
      exact absurd H (by simp)
  · rw [if_neg c5] at H
    have c5b0 : (t143 == 0) = false := beq_eq_false_iff_ne.mpr c5
    have c5b1 : (t143 != 0) = true := bne_iff_ne.mpr c5
    simp only [Option.some.injEq, Prod.mk.injEq] at H
    obtain ⟨rfl, rfl, rfl⟩ := H
    go_enter Try.func17, Try.ntmps17
    go_wp2_with (first | ((with_reducible refine gate_callee (f := 26) rfl ?_); refine goesL_ (some 24) rfl rfl Try.func26 (by kernel_rfl) rfl #[.slice A0 l0.length c0, .slice A1 l1.length c1, .int .i64 a2] rfl (by (try simp only [List.map_toArray, List.map_cons, List.map_nil]); first | done | rfl | (simp only [List.length_drop, List.length_take]; rfl)) ?_; (with_reducible refine (insolvencyref25_CheckTrace.calls k _ _ l0 _ _ l1 a2 t143 _ ?side1 ?side2 ?side3 ?side4 A4.out).mono ?_); (case side1 => repeat (first | exact HR0.out | (with_reducible refine Kd.C_alloc ?_ _) | (with_reducible refine Kd.C_drewN ?_ _) | (with_reducible refine Kd.C_drew ?_))); (case side2 => exact HC0.out); (case side3 => repeat (first | exact HR1.out | (with_reducible refine Kd.C_alloc ?_ _) | (with_reducible refine Kd.C_drewN ?_ _) | (with_reducible refine Kd.C_drew ?_))); (case side4 => exact HC1.out); rintro e w86 ⟨rfl, hb⟩; refine ⟨_, rfl, ?_⟩; have n0_ := Aside0.mk (below_step (by repeat (first | (with_reducible first | exact HB.out | apply below_alloc | apply pw_below_drewN | apply below_drew1) | exact HB.out)) hb); clear HB; have HB := n0_; clear n0_; (try clear hb); (try clear hb2); (try clear hk); (try clear hi)))
    go_ret3
    exact ⟨_, by first | rfl | (simp [errW_none, errW_some] <;> rfl) | (simp [*, errW_none, errW_some] <;> rfl), by first | exact Kd.R_nil _ _ _ _ _ | exact Kd.N_nil _ _ _ _ _ | exact Kd.V_nil _ _ _ _ _ | exact Kd.Q_nil _ _ _ _ _ | exact Kd.S_nil _ _ _ _ _, by repeat (first | (with_reducible first | exact HB.out | apply below_alloc | apply pw_below_drewN | apply below_drew1) | exact HB.out)⟩

end Go.Proofs.Ytljenpakncmlkaa.PAll
