/- undervalue.Trace, walked by hand: what it computes, and its contract. -/
import Derived.Test.YtljenpakncmlkaaTracerMove
namespace Go.Proofs.Ytljenpakncmlkaa.Tr
open Go.RowKit Go.Proofs.YtljenpakncmlkaaW.PrintWords Go.Proofs.YtljenpakncmlkaaW.PrintLast Go.Proofs.YtljenpakncmlkaaW.PrintMore Go.Proofs.Ytljenpakncmlkaa.PAll
attribute [local go_sem] max2_int min2_int max_two min_two

/-- A payment's spending: what the payer's traced part loses; the other party gets it, but what is paid for a transfer is lost. -/
def spF (f1 f2 f3 f4 : Int) (bal tr : List Int) (lost : Int) : List Int × Int :=
  if f1 = 1 then ((tr.set f2.toNat (wrap64 (rd tr f2 - taken bal tr f2 f4))).set f3.toNat (wrap64 (rd tr f3 + taken bal tr f2 f4)), lost)
  else (tr.set f3.toNat (wrap64 (rd tr f3 - taken bal tr f3 f4)), wrap64 (lost + taken bal tr f3 f4))
/-- One row. -/
def rowF (n : Nat) (at_ i f1 f2 f3 f4 : Int) (bal tr : List Int) (lost : Int) : List Int × List Int × Int :=
  let t1 := if i = at_ then tr.set f3.toNat f4 else tr
  let s := if at_ < i ∧ f1 ≠ 2 then spF f1 f2 f3 f4 bal t1 lost else (t1, lost)
  let b := mvF f1 f2 f3 f4 bal 2
  let c := if at_ ≤ i then clipF b s.1 s.2 n else s
  (b, c.1, c.2)
def stepF (n : Nat) (at_ : Int) (l : List S36) (s : List Int × List Int × Int) (i : Nat) : List Int × List Int × Int :=
  rowF n at_ i (rd_T36 l i).f1 (rd_T36 l i).f2 (rd_T36 l i).f3 (rd_T36 l i).f4 s.1 s.2.1 s.2.2
def foldF (n : Nat) (at_ : Int) (l : List S36) (l1 : List Int) (m : Nat) : List Int × List Int × Int :=
  (List.range m).foldl (stepF n at_ l) (l1, List.replicate n 0, 0)
theorem foldF_succ (n : Nat) (at_ : Int) (l : List S36) (l1 : List Int) (m : Nat) : foldF n at_ l l1 (m + 1) = stepF n at_ l (foldF n at_ l l1 m) m := by
  unfold foldF; rw [List.range_succ, List.foldl_append]; rfl
/-- What a row must be. -/
def rowOk (n : Nat) (r : S36) : Prop := (0 ≤ r.f2 ∧ r.f2 < n ∧ 0 ≤ r.f3 ∧ r.f3 < n ∧ r.f2 ≠ r.f3) ∧ (r.f1 = 1 ∨ r.f1 = 2 ∨ r.f1 = 3)
instance (n : Nat) (r : S36) : Decidable (rowOk n r) := by unfold rowOk; infer_instance
def inRange (x : Int) : Prop := -1125899906842624 ≤ x ∧ x ≤ 1125899906842624
instance (x : Int) : Decidable (inRange x) := by unfold inRange; infer_instance
theorem rd_mem (l : List Int) (i : Nat) (h : i < l.length) : rd l (i : Int) ∈ l := by
  unfold rd
  rw [Int.toNat_natCast, List.getD_eq_getElem?_getD, List.getElem?_eq_getElem h]
  exact List.getElem_mem h
theorem all_rd {P : Int → Prop} (l : List Int) (h : ∀ j : Nat, j < l.length → P (rd l (j : Int))) : ∀ x ∈ l, P x := by
  intro x hx
  obtain ⟨j, hj, rfl⟩ := List.mem_iff_getElem.mp hx
  have h1 := h j hj
  unfold rd at h1
  rw [Int.toNat_natCast, List.getD_eq_getElem?_getD, List.getElem?_eq_getElem hj] at h1
  exact h1
theorem rdT_mem (l : List S36) (i : Int) (h0 : 0 ≤ i) (h : i < (l.length : Int)) : rd_T36 l i ∈ l := by
  have h1 : i.toNat < l.length := by omega
  show l.getD i.toNat z36 ∈ l
  rw [List.getD_eq_getElem?_getD, List.getElem?_eq_getElem h1]
  exact List.getElem_mem h1
theorem R_other {e : Nat} {W w1 : World} {base : Nat} {ok : Nat → Prop} {v v' : Value} {xs : List Int} (h : (Kd.int .i64).R e W base ok v' xs) (hg : W.grownBy w1 v.ownBlock) (hne : NeRow v v') : (Kd.int .i64).R e w1 base ok v' xs :=
  Kd.R_of_own (own_other (Kd.own_of_R h) hg (ne_other hne)) h.1
/-- What undervalue.Trace answers. -/
def ansF (l : List S36) (l1 : List Int) (a : Int) (e : Int) : Option (List Int × Int × Int) :=
  if ¬ (l1.length ≤ 1000000 ∧ l.length ≤ 1000000) then none
  else if e ≠ 0 then some ([], 0, e)
  else if ¬ (∀ x ∈ l1, inRange x) then some ([], 0, 1)
  else if a < 0 ∨ (l.length : Int) ≤ a then some ([], 0, 1)
  else if (rd_T36 l a).f1 ≠ 1 then some ([], 0, 13)
  else if ∀ r ∈ l, rowOk l1.length r then
    some ((foldF l1.length a l l1 l.length).2.1, (foldF l1.length a l l1 l.length).2.2, 0)
  else none
end Go.Proofs.Ytljenpakncmlkaa.Tr
namespace Go.Proofs.Ytljenpakncmlkaa.PAll
open Go.RowKit Go.Proofs.YtljenpakncmlkaaW.PrintWords Go.Proofs.YtljenpakncmlkaaW.PrintLast Go.Proofs.YtljenpakncmlkaaW.PrintMore
def undervalue_Trace.f (k : Nat) (l0 : List S36) (l1 : List Int) (a2 : Int) : Option (List Int × Int × Int) := (history_Check.f k l1.length l0).bind fun e => Tr.ansF l0 l1 a2 e
theorem undervalue_Trace.mono : ∀ l0 l1 a2 k, LeO (undervalue_Trace.f k l0 l1 a2) (undervalue_Trace.f (k + 1) l0 l1 a2) := by
  intro l0 l1 a2 k
  unfold undervalue_Trace.f
  refine LeO.bind ?_ (fun _ => LeO.refl _)
  exact history_Check.mono _ _ _
end Go.Proofs.Ytljenpakncmlkaa.PAll
