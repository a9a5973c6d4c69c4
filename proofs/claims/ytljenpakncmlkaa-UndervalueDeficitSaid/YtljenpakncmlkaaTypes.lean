/- What the arguments of this seat's laws read as: each type's readings come out as values of a kind, with what is known of them. -/
import Derived.Test.YtljenpakncmlkaaPAllx0
import Derived.Test.YtljenpakncmlkaaOpens
import Derived.OpenShut
import Derived.KernelRfl
namespace Go.Proofs.Ytljenpakncmlkaa.Types
open Go.RowKit Go.Proofs.YtljenpakncmlkaaW.PrintWords Go.Proofs.Ytljenpakncmlkaa.PAll Go.Proofs.Ytljenpakncmlkaa.Opens
def ok5 (n : Int) : Prop := 0 ≤ n ∧ n ≤ 255
theorem op5 : Opens Try.prog 5 (Kd.int .u8) ok5 := opens_mono (opens_int Try.underlying5 (by kernel_rfl)) (fun _ h => bounds_u8 h)
def ok3 (n : Int) : Prop := (-9223372036854775808) ≤ n ∧ n ≤ 9223372036854775807
theorem op3 : Opens Try.prog 3 (Kd.int .i64) ok3 := opens_mono (opens_int Try.underlying3 (by kernel_rfl)) (fun _ h => bounds_i64 h)
def ok2 (n : Int) : Prop := (-9223372036854775808) ≤ n ∧ n ≤ 9223372036854775807
theorem op2 : Opens Try.prog 2 (Kd.int .i64) ok2 := opens_mono (opens_int Try.underlying2 (by kernel_rfl)) (fun _ h => bounds_i64 h)
instance : Inhabited S36 := ⟨z36⟩
def ok36 (x : S36) : Prop := ok3 x.f0 ∧ ok3 x.f1 ∧ ok3 x.f2 ∧ ok3 x.f3 ∧ ok2 x.f4 ∧ ok2 x.f5
theorem op36 : Opens Try.prog 36 k36 ok36 := opens_iso (fun x : S36 => (x.f0, x.f1, x.f2, x.f3, x.f4, x.f5)) (fun p => (⟨p.1, p.2.1, p.2.2.1, p.2.2.2.1, p.2.2.2.2.1, p.2.2.2.2.2⟩ : S36)) (fun _ => rfl) (opens_struct Try.underlying36 (ts := [3, 3, 3, 3, 2, 2]) rfl (by kernel_rfl) (by kernel_rfl) (opensL_cons op3 (opensL_cons op3 (opensL_cons op3 (opensL_cons op3 (opensL_cons op2 (opensL_one op2)))))))
def ok40 (n : Int) : Prop := 0 ≤ n ∧ n ≤ 65535
theorem op40 : Opens Try.prog 40 (Kd.int .u16) ok40 := opens_mono (opens_int Try.underlying40 (by kernel_rfl)) (fun _ h => bounds_u16 h)
end Go.Proofs.Ytljenpakncmlkaa.Types
