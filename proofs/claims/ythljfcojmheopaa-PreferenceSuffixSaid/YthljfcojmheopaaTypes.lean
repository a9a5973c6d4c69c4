/- What the arguments of this seat's laws read as: each type's readings come out as values of a kind, with what is known of them. -/
import Derived.Test.YthljfcojmheopaaPAllx0
import Derived.Test.YthljfcojmheopaaOpens
import Derived.OpenShut
import Derived.KernelRfl
namespace Go.Proofs.Ythljfcojmheopaa.Types
open Go.RowKit Go.Proofs.YthljfcojmheopaaW.PrintWords Go.Proofs.Ythljfcojmheopaa.PAll Go.Proofs.Ythljfcojmheopaa.Opens
def ok3 (n : Int) : Prop := (-9223372036854775808) ≤ n ∧ n ≤ 9223372036854775807
theorem op3 : Opens Try.prog 3 (Kd.int .i64) ok3 := opens_mono (opens_int Try.underlying3 (by kernel_rfl)) (fun _ h => bounds_i64 h)
def ok5 (n : Int) : Prop := 0 ≤ n ∧ n ≤ 255
theorem op5 : Opens Try.prog 5 (Kd.int .u8) ok5 := opens_mono (opens_int Try.underlying5 (by kernel_rfl)) (fun _ h => bounds_u8 h)
def ok2 (n : Int) : Prop := (-9223372036854775808) ≤ n ∧ n ≤ 9223372036854775807
theorem op2 : Opens Try.prog 2 (Kd.int .i64) ok2 := opens_mono (opens_int Try.underlying2 (by kernel_rfl)) (fun _ h => bounds_i64 h)
instance : Inhabited S30 := ⟨z30⟩
def ok30 (x : S30) : Prop := ok3 x.f0 ∧ ok3 x.f1 ∧ ok3 x.f2 ∧ ok3 x.f3 ∧ ok2 x.f4 ∧ ok2 x.f5
theorem op30 : Opens Try.prog 30 k30 ok30 := opens_iso (fun x : S30 => (x.f0, x.f1, x.f2, x.f3, x.f4, x.f5)) (fun p => (⟨p.1, p.2.1, p.2.2.1, p.2.2.2.1, p.2.2.2.2.1, p.2.2.2.2.2⟩ : S30)) (fun _ => rfl) (opens_struct Try.underlying30 (ts := [3, 3, 3, 3, 2, 2]) rfl (by kernel_rfl) (by kernel_rfl) (opensL_cons op3 (opensL_cons op3 (opensL_cons op3 (opensL_cons op3 (opensL_cons op2 (opensL_one op2)))))))
def ok22 (l : List S30) : Prop := l.length ≤ maxLen ∧ ∀ x ∈ l, ok30 x
theorem op22 : Opens Try.prog 22 (Kd.slice 30 k30) ok22 := opens_slice (α := S30) Try.underlying22 (by kernel_rfl) op30
def ok44 (n : Int) : Prop := 0 ≤ n ∧ n ≤ 65535
theorem op44 : Opens Try.prog 44 (Kd.int .u16) ok44 := opens_mono (opens_int Try.underlying44 (by kernel_rfl)) (fun _ h => bounds_u16 h)
instance : Inhabited S47 := ⟨z47⟩
def ok47 (x : S47) : Prop := ok44 x.f0 ∧ ok44 x.f1 ∧ ok44 x.f2 ∧ ok44 x.f3 ∧ ok44 x.f4
theorem op47 : Opens Try.prog 47 k47 ok47 := opens_iso (fun x : S47 => (x.f0, x.f1, x.f2, x.f3, x.f4)) (fun p => (⟨p.1, p.2.1, p.2.2.1, p.2.2.2.1, p.2.2.2.2⟩ : S47)) (fun _ => rfl) (opens_array Try.underlying47 (by kernel_rfl) (opensL_cons op44 (opensL_cons op44 (opensL_cons op44 (opensL_cons op44 (opensL_one op44))))))
def ok23 (l : List S47) : Prop := l.length ≤ maxLen ∧ ∀ x ∈ l, ok47 x
theorem op23 : Opens Try.prog 23 (Kd.slice 47 k47) ok23 := opens_slice (α := S47) Try.underlying23 (by kernel_rfl) op47
def ok24 (n : Int) : Prop := (-128) ≤ n ∧ n ≤ 127
theorem op24 : Opens Try.prog 24 (Kd.int .i8) ok24 := opens_mono (opens_int Try.underlying24 (by kernel_rfl)) (fun _ h => bounds_i8 h)
def ok33 (l : List Int) : Prop := l.length ≤ maxLen ∧ ∀ x ∈ l, ok2 x
theorem op33 : Opens Try.prog 33 (Kd.slice 2 (Kd.int .i64)) ok33 := opens_slice (α := Int) Try.underlying33 (by kernel_rfl) op2
end Go.Proofs.Ythljfcojmheopaa.Types
