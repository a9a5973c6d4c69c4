/- What the arguments of this seat's laws read as: each type's readings come out as values of a kind, with what is known of them. -/
import Derived.Test.YtljenpakncmlkaaPAllx0
import Derived.Test.YtljenpakncmlkaaOpens
import Derived.OpenShut
import Derived.KernelRfl
namespace Go.Proofs.Ytljenpakncmlkaa.Types
open Go.RowKit Go.Proofs.YtljenpakncmlkaaW.PrintWords Go.Proofs.Ytljenpakncmlkaa.PAll Go.Proofs.Ytljenpakncmlkaa.Opens
structure S23 where
  f0 : Int
  f1 : Int
  f2 : Int
  f3 : Int
def z23 : S23 := ⟨(0 : Int), (0 : Int), (0 : Int), (0 : Int)⟩
def k23 : Kd S23 := Kd.iso (Kd.pair (Kd.int .u8) (Kd.pair (Kd.int .u8) (Kd.pair (Kd.int .u8) (Kd.int .u8)))) (fun x : S23 => (x.f0, x.f1, x.f2, x.f3))
theorem k23_open {w : World} {x : S23} {cs : List Value} (h : k23.K w x cs) : cs = [.int .u8 x.f0, .int .u8 x.f1, .int .u8 x.f2, .int .u8 x.f3] := by
  obtain ⟨c0, r0, rfl, h0, h⟩ := h
  obtain ⟨c1, r1, rfl, h1, h⟩ := h
  obtain ⟨c2, r2, rfl, h2, h⟩ := h
  obtain rfl := h
  obtain rfl := h0
  obtain rfl := h1
  obtain rfl := h2
  rfl
def ok3 (n : Int) : Prop := (-9223372036854775808) ≤ n ∧ n ≤ 9223372036854775807
theorem op3 : Opens Try.prog 3 (Kd.int .i64) ok3 := opens_mono (opens_int Try.underlying3 (by kernel_rfl)) (fun _ h => bounds_i64 h)
def ok5 (n : Int) : Prop := 0 ≤ n ∧ n ≤ 255
theorem op5 : Opens Try.prog 5 (Kd.int .u8) ok5 := opens_mono (opens_int Try.underlying5 (by kernel_rfl)) (fun _ h => bounds_u8 h)
def ok40 (n : Int) : Prop := 0 ≤ n ∧ n ≤ 65535
theorem op40 : Opens Try.prog 40 (Kd.int .u16) ok40 := opens_mono (opens_int Try.underlying40 (by kernel_rfl)) (fun _ h => bounds_u16 h)
instance : Inhabited S43 := ⟨z43⟩
def ok43 (x : S43) : Prop := ok40 x.f0 ∧ ok40 x.f1 ∧ ok40 x.f2 ∧ ok40 x.f3 ∧ ok40 x.f4
theorem op43 : Opens Try.prog 43 k43 ok43 := opens_iso (fun x : S43 => (x.f0, x.f1, x.f2, x.f3, x.f4)) (fun p => (⟨p.1, p.2.1, p.2.2.1, p.2.2.2.1, p.2.2.2.2⟩ : S43)) (fun _ => rfl) (opens_array Try.underlying43 (by kernel_rfl) (opensL_cons op40 (opensL_cons op40 (opensL_cons op40 (opensL_cons op40 (opensL_one op40))))))
def ok22 (l : List S43) : Prop := l.length ≤ maxLen ∧ ∀ x ∈ l, ok43 x
theorem op22 : Opens Try.prog 22 (Kd.slice 43 k43) ok22 := opens_slice (α := S43) Try.underlying22 (by kernel_rfl) op43
instance : Inhabited S23 := ⟨z23⟩
def ok23 (x : S23) : Prop := ok5 x.f0 ∧ ok5 x.f1 ∧ ok5 x.f2 ∧ ok5 x.f3
theorem op23 : Opens Try.prog 23 k23 ok23 := opens_iso (fun x : S23 => (x.f0, x.f1, x.f2, x.f3)) (fun p => (⟨p.1, p.2.1, p.2.2.1, p.2.2.2⟩ : S23)) (fun _ => rfl) (opens_array Try.underlying23 (by kernel_rfl) (opensL_cons op5 (opensL_cons op5 (opensL_cons op5 (opensL_one op5)))))
def ok2 (n : Int) : Prop := (-9223372036854775808) ≤ n ∧ n ≤ 9223372036854775807
theorem op2 : Opens Try.prog 2 (Kd.int .i64) ok2 := opens_mono (opens_int Try.underlying2 (by kernel_rfl)) (fun _ h => bounds_i64 h)
instance : Inhabited S36 := ⟨z36⟩
def ok36 (x : S36) : Prop := ok3 x.f0 ∧ ok3 x.f1 ∧ ok3 x.f2 ∧ ok3 x.f3 ∧ ok2 x.f4 ∧ ok2 x.f5
theorem op36 : Opens Try.prog 36 k36 ok36 := opens_iso (fun x : S36 => (x.f0, x.f1, x.f2, x.f3, x.f4, x.f5)) (fun p => (⟨p.1, p.2.1, p.2.2.1, p.2.2.2.1, p.2.2.2.2.1, p.2.2.2.2.2⟩ : S36)) (fun _ => rfl) (opens_struct Try.underlying36 (ts := [3, 3, 3, 3, 2, 2]) rfl (by kernel_rfl) (by kernel_rfl) (opensL_cons op3 (opensL_cons op3 (opensL_cons op3 (opensL_cons op3 (opensL_cons op2 (opensL_one op2)))))))
def ok24 (l : List S36) : Prop := l.length ≤ maxLen ∧ ∀ x ∈ l, ok36 x
theorem op24 : Opens Try.prog 24 (Kd.slice 36 k36) ok24 := opens_slice (α := S36) Try.underlying24 (by kernel_rfl) op36
def ok25 (l : List Int) : Prop := l.length ≤ maxLen ∧ ∀ x ∈ l, ok2 x
theorem op25 : Opens Try.prog 25 (Kd.slice 2 (Kd.int .i64)) ok25 := opens_slice (α := Int) Try.underlying25 (by kernel_rfl) op2
end Go.Proofs.Ytljenpakncmlkaa.Types
