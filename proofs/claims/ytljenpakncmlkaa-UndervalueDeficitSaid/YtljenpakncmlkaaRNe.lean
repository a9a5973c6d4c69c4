/- The reference's rationals at whole numbers. -/
import Derived.Test.YtljenpakncmlkaaRNd
import Derived.Test.YtljenpakncmlkaaPAllx9
import Derived.Test.YtljenpakncmlkaaPAllx6
import Derived.Laws.Strings
namespace Go.Proofs.Ytljenpakncmlkaa.RN
open Go.RowKit Go.Proofs.YtljenpakncmlkaaW.PrintWords Go.Proofs.YtljenpakncmlkaaW.PrintMore Go.Proofs.Ytljenpakncmlkaa.PAll Go.Proofs.Ytljenpakncmlkaa.Mth

theorem tl_nil (b : ByteArray) : b.toList = ([] : List UInt8) ↔ b.size = 0 := by
  rw [ByteArray.toList_eq]
  exact List.length_eq_zero_iff.symm
theorem one_u : U32 [1] := U32_cons.2 ⟨by decide, U32_nil⟩
theorem one_tr : Tr [1] := fun _ => by decide
theorem div_one (a : List Int) (ha : U32 a) (hta : Tr a) (hn : a.length ≤ big) (h1 : 1 ≤ lv a) : ∃ q, Ev (fun k => insolvencyref1_divide.f k a [1]) (q, []) := by
  obtain ⟨r, s1, s2⟩ := short_ev a ha hn 1 (by decide) (by decide)
  have hr : r.2 = 0 := by have := s2.r0; have := s2.r1; omega
  refine ⟨r.1, ?_⟩
  unfold insolvencyref1_divide.f
  refine Ev.bind (order_ev a [1] ha one_u hta one_tr hn) ?_
  have hs : ¬ sgn3 (lv a) (lv [1]) < 0 := by
    rw [lv_one]
    unfold sgn3
    rw [if_neg (by omega)]
    split <;> decide
  have c1 : (([1] : List Int).length : Int) = 1 := rfl
  have c2 : (0 : Int) < 1 := by decide
  have c3 : rd [1] 0 = 1 := rfl
  simp only [hs, if_false, c1, c2, if_true, c3]
  refine Ev.bind s1 ?_
  rw [hr]
  exact Ev.bind (strip_ev [0] (by decide)) (Ev.now _)
theorem common_one (a : List Int) (ha : U32 a) (hta : Tr a) (hn : a.length ≤ big) (h1 : 1 ≤ lv a) : Ev (fun k => insolvencyref1_common.f k a [1]) [1] := by
  obtain ⟨q, hq⟩ := div_one a ha hta hn h1
  unfold insolvencyref1_common.f
  refine Ev.step (fun k => by simp only [insolvencyref1_common.l0]; rfl) ?_
  have c1 : (([1] : List Int).length : Int) > 0 := by decide
  simp only [c1, if_true]
  refine Ev.bind hq ?_
  refine Ev.step (fun k => by simp only [insolvencyref1_common.l0]; rfl) ?_
  simp only [List.length_nil]
  exact Ev.now _
/-- A whole number, as the reference holds it. -/
structure IsInt (n : Nat) (v : Int) (x : Bool × ByteArray × ByteArray) : Prop where
  den : x.2.2 = (⟨#[]⟩ : ByteArray)
  nz : NZ (bl x.2.1)
  num : bev (bl x.2.1) = (v.natAbs : Int)
  neg : x.1 = decide (v < 0)
  size : x.2.1.size ≤ n
theorem IsInt.zero {n : Nat} {v : Int} {x : Bool × ByteArray × ByteArray} (h : IsInt n v x) : x.2.1.toList = ([] : List UInt8) ↔ v = 0 := by
  rw [tl_nil, ← bl_nil, ← NZ_zero (bl_B8 _) h.nz, h.num]
  omega
theorem IsInt.mono {n m : Nat} {v : Int} {x : Bool × ByteArray × ByteArray} (h : IsInt n v x) (hm : n ≤ m) : IsInt m v x := ⟨h.den, h.nz, h.num, h.neg, Nat.le_trans h.size hm⟩
theorem isInt_zero (n : Nat) : IsInt n 0 (false, (⟨#[]⟩ : ByteArray), (⟨#[]⟩ : ByteArray)) := ⟨rfl, fun h => absurd h (Nat.lt_irrefl 0), rfl, rfl, Nat.zero_le _⟩
theorem reduced_one (neg : Bool) (l : List Int) (hu : U32 l) (ht : Tr l) (hn : l.length ≤ big) (v : Int) (hv : lv l = (v.natAbs : Int)) (hneg : v ≠ 0 → neg = decide (v < 0)) : ∃ r, Ev (fun k => insolvencyref1_reduced.f k neg l [1]) r ∧ IsInt (4 * l.length) v r := by
  unfold insolvencyref1_reduced.f
  by_cases h0 : l = []
  · subst h0
    have : v = 0 := by rw [lv_nil] at hv; omega
    subst this
    refine ⟨(false, (⟨#[]⟩ : ByteArray), (⟨#[]⟩ : ByteArray)), ?_, isInt_zero _⟩
    simp only [List.length_nil]
    exact Ev.now _
  · have hl : ¬ ((l.length : Nat) : Int) = 0 := by
      have : l.length ≠ 0 := fun h => h0 (List.length_eq_zero_iff.1 h)
      omega
    have h1 : 1 ≤ lv l := by
      have := (lv_bounds hu).1
      have : lv l ≠ 0 := fun h => h0 ((Tr_zero hu ht).1 h)
      omega
    obtain ⟨b, b1, b2, b3⟩ := text_ev l hu hn
    refine ⟨(neg, b, (⟨#[]⟩ : ByteArray)), ?_, rfl, b2.nz, by rw [b2.v, hv], hneg (by omega), b3⟩
    simp only [hl, if_false]
    refine Ev.bind (common_one l hu ht hn h1) ?_
    have c1 : ¬ (([1] : List Int).length : Int) > 1 := by decide
    have c2 : (0 : Int) < (([1] : List Int).length : Int) := by decide
    have c3 : ¬ rd [1] 0 > 1 := by decide
    simp only [c1, if_false, c2, if_true, c3, decide_false]
    refine Ev.step (fun k => by simp only [insolvencyref1_reduced.j0]; rfl) ?_
    simp only [Bool.false_eq_true, if_false]
    refine Ev.step (fun k => by simp only [insolvencyref1_reduced.j1]; rfl) ?_
    refine Ev.bind b1 ?_
    simp only [c1, if_false, c2, if_true, c3]
    exact Ev.now _
theorem size_eq (n : Int) (h : I64 n) : insolvencyref1_size.f n = some (n.natAbs : Int) := by
  obtain ⟨h0, h1⟩ := h
  unfold insolvencyref1_size.f
  split
  · rename_i hn
    congr 1
    rw [wI (n + 1) ⟨by omega, by omega⟩, wI (-(n + 1)) ⟨by omega, by omega⟩, u64 (-(n + 1)) (by omega) (by omega), u64 _ (by omega) (by omega)]
    omega
  · rw [u64 n (by omega) (by omega)]
    congr 1
    omega
theorem int_ev (n : Int) (h : I64 n) : ∃ r, Ev (fun k => insolvencyref1_Int.f k n) r ∧ IsInt 8 n r := by
  have hu : U32 [(n.natAbs : Int) % 4294967296, (n.natAbs : Int) / 4294967296 % 4294967296] := U32_cons.2 ⟨by omega, U32_cons.2 ⟨by omega, U32_nil⟩⟩
  obtain ⟨b, b1, b2, b3⟩ := text_ev _ hu (by simp only [List.length_cons, List.length_nil]; decide)
  refine ⟨(decide (n < 0), b, (⟨#[]⟩ : ByteArray)), ?_, rfl, b2.nz, ?_, rfl, b3⟩
  · unfold insolvencyref1_Int.f
    rw [size_eq n h]
    simp only [Option.bind_some]
    unfold insolvencyref1_FromUint.f
    exact Ev.bind (Ev.bind b1 (Ev.now _)) (Ev.now _)
  · rw [b2.v]
    simp only [lv]
    obtain ⟨h0, h1⟩ := h
    omega
theorem den_ev (x : Bool × ByteArray × ByteArray) (h : x.2.2 = (⟨#[]⟩ : ByteArray)) : Ev (fun k => insolvencyref1_den.f k x.1 x.2.1 x.2.2) [1] := by
  unfold insolvencyref1_den.f
  have c : x.2.2.toList = ([] : List UInt8) := by rw [tl_nil, h]; rfl
  simp only [c, if_true]
  exact Ev.now _
theorem times_one : Ev (fun k => insolvencyref1_times.f k [1] [1]) [1] := by
  obtain ⟨r, h1, h2⟩ := times_ev [1] [1] one_u one_u (by decide)
  have : r = [1] := Tr_inj h2.u one_u h2.tr one_tr (by rw [h2.v]; decide)
  rw [this] at h1
  exact h1
theorem times_by_one (a : List Int) (ha : U32 a) (hta : Tr a) (hn : a.length + 1 ≤ big) : Ev (fun k => insolvencyref1_times.f k a [1]) a := by
  obtain ⟨r, h1, h2⟩ := times_ev a [1] ha one_u hn
  have : r = a := Tr_inj h2.u ha h2.tr hta (by rw [h2.v, lv_one]; omega)
  rw [this] at h1
  exact h1
theorem natAbs_lv {v : Int} {n : Nat} {r : List Int} {x : ByteArray} (h : LimbsIs (bev (bl x)) n r) (hx : bev (bl x) = (v.natAbs : Int)) : lv r = (v.natAbs : Int) := by rw [h.v, hx]
theorem Times_ev (x y : Bool × ByteArray × ByteArray) (n : Nat) (hn : n ≤ 1000000) (a b : Int) (hx : IsInt n a x) (hy : IsInt n b y) :
    ∃ r, Ev (fun k => insolvencyref1_Times.f k x.1 x.2.1 x.2.2 y.1 y.2.1 y.2.2) r ∧ IsInt (2 * n + 6) (a * b) r := by
  unfold insolvencyref1_Times.f
  have zero : ∀ v : Int, v = 0 → ∃ r, Ev (fun k => insolvencyref1_Times.j0 k true x.1 x.2.1 x.2.2 y.1 y.2.1 y.2.2) r ∧ IsInt (2 * n + 6) v r := by
    rintro v rfl
    refine ⟨(false, (⟨#[]⟩ : ByteArray), (⟨#[]⟩ : ByteArray)), ?_, isInt_zero _⟩
    refine Ev.step (fun k => by simp only [insolvencyref1_Times.j0]; rfl) ?_
    simp only [if_true]
    exact Ev.now _
  by_cases ca : x.2.1.toList = ([] : List UInt8)
  · simp only [ca, if_true]
    exact zero (a * b) (by rw [hx.zero.1 ca, Int.zero_mul])
  · simp only [ca, if_false]
    by_cases cb : y.2.1.toList = ([] : List UInt8)
    · have e : (y.2.1.toList == ([] : List UInt8)) = true := by rw [cb]; rfl
      rw [e]
      exact zero (a * b) (by rw [hy.zero.1 cb, Int.mul_zero])
    · have e : (y.2.1.toList == ([] : List UInt8)) = false := beq_eq_false_iff_ne.2 cb
      rw [e]
      have ha0 : a ≠ 0 := fun h => ca (hx.zero.2 h)
      have hb0 : b ≠ 0 := fun h => cb (hy.zero.2 h)
      obtain ⟨l1, p1, p2⟩ := limbs_ev x.2.1 (by have := hx.size; unfold big; omega)
      obtain ⟨l2, q1, q2⟩ := limbs_ev y.2.1 (by have := hy.size; unfold big; omega)
      have s1 : l1.length ≤ (n + 3) / 4 := Nat.le_trans p2.len (by have := hx.size; omega)
      have s2 : l2.length ≤ (n + 3) / 4 := Nat.le_trans q2.len (by have := hy.size; omega)
      obtain ⟨l3, t1, t2⟩ := times_ev l1 l2 p2.u q2.u (by unfold big; omega)
      have s3 := t2.len
      have hv : lv l3 = ((a * b).natAbs : Int) := by
        rw [t2.v, p2.v, q2.v, hx.num, hy.num, Int.natAbs_mul, Int.natCast_mul]
      have hneg : a * b ≠ 0 → (x.1 != y.1) = decide (a * b < 0) := by
        intro _
        rw [hx.neg, hy.neg]
        have hpos : 0 < a ∨ a < 0 := by omega
        have hpos2 : 0 < b ∨ b < 0 := by omega
        rcases hpos with ha | ha <;> rcases hpos2 with hb | hb
        · have := Int.mul_pos ha hb
          rw [decide_eq_false (by omega), decide_eq_false (by omega), decide_eq_false (by omega)]; rfl
        · have := Int.mul_neg_of_pos_of_neg ha hb
          rw [decide_eq_false (by omega), decide_eq_true hb, decide_eq_true this]; rfl
        · have := Int.mul_neg_of_neg_of_pos ha hb
          rw [decide_eq_true ha, decide_eq_false (by omega), decide_eq_true this]; rfl
        · have := Int.mul_pos_of_neg_of_neg ha hb
          rw [decide_eq_true ha, decide_eq_true hb, decide_eq_false (by omega)]; rfl
      obtain ⟨r, r1, r2⟩ := reduced_one (x.1 != y.1) l3 t2.u t2.tr (by unfold big; omega) (a * b) hv hneg
      refine ⟨r, ?_, r2.mono (by omega)⟩
      refine Ev.step (fun k => by simp only [insolvencyref1_Times.j0]; rfl) ?_
      simp only [Bool.false_eq_true, if_false]
      exact Ev.bind p1 (Ev.bind q1 (Ev.bind t1 (Ev.bind (den_ev x hx.den) (Ev.bind (den_ev y hy.den) (Ev.bind times_one (Ev.bind r1 (Ev.now _)))))))
theorem opp_eq (x : Bool × ByteArray × ByteArray) (n : Nat) (v : Int) (h : IsInt n v x) : ∃ r, insolvencyref1_Opposite.f x.1 x.2.1 x.2.2 = some r ∧ IsInt n (-v) r := by
  unfold insolvencyref1_Opposite.f
  by_cases c : x.2.1.toList = ([] : List UInt8)
  · rw [if_pos c]
    have h0 := h.zero.1 c
    subst h0
    exact ⟨_, rfl, h.den, h.nz, h.num, h.neg, h.size⟩
  · rw [if_neg c]
    have h0 : v ≠ 0 := fun e => c (h.zero.2 e)
    refine ⟨_, rfl, h.den, h.nz, by rw [Int.natAbs_neg]; exact h.num, ?_, h.size⟩
    show (!x.1) = decide (-v < 0)
    rw [h.neg]
    by_cases hv : v < 0
    · rw [decide_eq_true hv, decide_eq_false (by omega)]; rfl
    · rw [decide_eq_false hv, decide_eq_true (by omega)]; rfl
theorem Plus_ev (x y : Bool × ByteArray × ByteArray) (n : Nat) (hn : n ≤ 1000000) (a b : Int) (hx : IsInt n a x) (hy : IsInt n b y) :
    ∃ r, Ev (fun k => insolvencyref1_Plus.f k x.1 x.2.1 x.2.2 y.1 y.2.1 y.2.2) r ∧ IsInt (n + 7) (a + b) r := by
  unfold insolvencyref1_Plus.f
  by_cases ca : x.2.1.toList = ([] : List UInt8)
  · simp only [ca, if_true]
    refine ⟨_, Ev.now _, ?_⟩
    rw [hx.zero.1 ca, Int.zero_add]
    exact hy.mono (by omega)
  · simp only [ca, if_false]
    by_cases cb : y.2.1.toList = ([] : List UInt8)
    · simp only [cb, if_true]
      refine ⟨_, Ev.now _, ?_⟩
      rw [hy.zero.1 cb, Int.add_zero]
      exact hx.mono (by omega)
    · simp only [cb, if_false]
      have ha0 : a ≠ 0 := fun h => ca (hx.zero.2 h)
      have hb0 : b ≠ 0 := fun h => cb (hy.zero.2 h)
      obtain ⟨l1, p1, p2⟩ := limbs_ev x.2.1 (by have := hx.size; unfold big; omega)
      obtain ⟨l2, q1, q2⟩ := limbs_ev y.2.1 (by have := hy.size; unfold big; omega)
      have s1 : l1.length ≤ (n + 3) / 4 := Nat.le_trans p2.len (by have := hx.size; omega)
      have s2 : l2.length ≤ (n + 3) / 4 := Nat.le_trans q2.len (by have := hy.size; omega)
      have v1 : lv l1 = (a.natAbs : Int) := natAbs_lv p2 hx.num
      have v2 : lv l2 = (b.natAbs : Int) := natAbs_lv q2 hy.num
      have t1 := times_by_one l1 p2.u p2.tr (by unfold big; omega)
      have t2 := times_by_one l2 q2.u q2.tr (by unfold big; omega)
      by_cases cs : x.1 = y.1
      · have hsgn : (a < 0 ↔ b < 0) := by
          have := hx.neg; have h2 := hy.neg
          rw [← cs, this] at h2
          exact decide_eq_decide.1 h2
        obtain ⟨l3, u1, u2⟩ := plus_ev l1 l2 p2.u q2.u p2.tr q2.tr (by unfold big; omega)
        have s3 := u2.len
        obtain ⟨r, r1, r2⟩ := reduced_one x.1 l3 u2.u u2.tr (by unfold big; omega) (a + b) (by rw [u2.v, v1, v2]; omega) (fun _ => by
          rw [hx.neg]; apply decide_eq_decide.2; omega)
        refine ⟨r, ?_, r2.mono (by omega)⟩
        refine Ev.bind (den_ev x hx.den) (Ev.bind (den_ev y hy.den) (Ev.bind p1 (Ev.bind t1 (Ev.bind q1 (Ev.bind t2 (Ev.bind times_one ?_))))))
        have e : (x.1 == y.1) = true := beq_iff_eq.2 cs
        simp only [e, if_true]
        exact Ev.bind u1 (Ev.bind r1 (Ev.now _))
      · have e : ¬ (x.1 == y.1) = true := fun h => cs (beq_iff_eq.1 h)
        have hsgn : ¬ (a < 0 ↔ b < 0) := by
          intro h
          apply cs
          rw [hx.neg, hy.neg]
          exact decide_eq_decide.2 h
        by_cases hlt : (a.natAbs : Int) < (b.natAbs : Int)
        · obtain ⟨l3, u1, u2⟩ := minus_ev l2 l1 q2.u p2.u p2.tr (by unfold big; omega) (by rw [v1, v2]; omega)
          have s3 := u2.len
          obtain ⟨r, r1, r2⟩ := reduced_one y.1 l3 u2.u u2.tr (by unfold big; omega) (a + b) (by rw [u2.v, v1, v2]; omega) (fun _ => by
            rw [hy.neg]; apply decide_eq_decide.2; omega)
          refine ⟨r, ?_, r2.mono (by omega)⟩
          refine Ev.bind (den_ev x hx.den) (Ev.bind (den_ev y hy.den) (Ev.bind p1 (Ev.bind t1 (Ev.bind q1 (Ev.bind t2 (Ev.bind times_one ?_))))))
          simp only [e]
          refine Ev.bind (order_ev l1 l2 p2.u q2.u p2.tr q2.tr (by unfold big; omega)) ?_
          have hs : sgn3 (lv l1) (lv l2) < 0 := by rw [v1, v2, sgn3_lt hlt]; decide
          simp only [hs, if_true]
          exact Ev.bind u1 (Ev.bind r1 (Ev.now _))
        · obtain ⟨l3, u1, u2⟩ := minus_ev l1 l2 p2.u q2.u q2.tr (by unfold big; omega) (by rw [v1, v2]; omega)
          have s3 := u2.len
          obtain ⟨r, r1, r2⟩ := reduced_one x.1 l3 u2.u u2.tr (by unfold big; omega) (a + b) (by rw [u2.v, v1, v2]; omega) (fun _ => by
            rw [hx.neg]; apply decide_eq_decide.2; omega)
          refine ⟨r, ?_, r2.mono (by omega)⟩
          refine Ev.bind (den_ev x hx.den) (Ev.bind (den_ev y hy.den) (Ev.bind p1 (Ev.bind t1 (Ev.bind q1 (Ev.bind t2 (Ev.bind times_one ?_))))))
          simp only [e]
          refine Ev.bind (order_ev l1 l2 p2.u q2.u p2.tr q2.tr (by unfold big; omega)) ?_
          have hs : ¬ sgn3 (lv l1) (lv l2) < 0 := by
            rw [v1, v2]; unfold sgn3; rw [if_neg hlt]; split <;> decide
          simp only [hs, if_false]
          exact Ev.bind u1 (Ev.bind r1 (Ev.now _))
theorem sig_eq (x : Bool × ByteArray × ByteArray) (n : Nat) (v : Int) (h : IsInt n v x) : ∃ s, insolvencyref1_Signum.f x.1 x.2.1 x.2.2 = some s ∧ (s < 0 ↔ v < 0) := by
  unfold insolvencyref1_Signum.f
  by_cases c : x.2.1.toList = ([] : List UInt8)
  · rw [if_pos c]
    have h0 := h.zero.1 c
    exact ⟨0, rfl, by omega⟩
  · rw [if_neg c]
    by_cases hv : v < 0
    · rw [if_pos (by rw [h.neg]; exact decide_eq_true hv)]
      exact ⟨-1, rfl, by omega⟩
    · rw [if_neg (by rw [h.neg, decide_eq_false hv]; decide)]
      exact ⟨1, rfl, by omega⟩
theorem Less_ev (x y : Bool × ByteArray × ByteArray) (n : Nat) (hn : n ≤ 1000000) (a b : Int) (hx : IsInt n a x) (hy : IsInt n b y) :
    Ev (fun k => insolvencyref1_Less.f k x.1 x.2.1 x.2.2 y.1 y.2.1 y.2.2) (decide (a < b)) := by
  obtain ⟨z, z1, z2⟩ := opp_eq y n b hy
  obtain ⟨r, r1, r2⟩ := Plus_ev x z n hn a (-b) hx z2
  obtain ⟨s, s1, s2⟩ := sig_eq r _ _ r2
  unfold insolvencyref1_Less.f insolvencyref1_Minus.f
  rw [z1]
  simp only [Option.bind_some]
  refine Ev.bind (Ev.bind r1 (Ev.now _)) ?_
  simp only [s1, Option.bind_some]
  have e : decide (s < 0) = decide (a < b) := decide_eq_decide.2 (by omega)
  rw [e]
  exact Ev.now _
end Go.Proofs.Ytljenpakncmlkaa.RN
