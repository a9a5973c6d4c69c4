/- What the arguments of this seat's laws read as: each type's readings come out as values of a kind, with what is known of them. -/
import Derived.Test.YtjeamaahhpbbkaaDoorPAllx0
import Derived.Test.YtjeamaahhpbbkaaDoorOpens
import Derived.OpenShut
import Derived.KernelRfl
namespace Go.Proofs.YtjeamaahhpbbkaaDoor.Types
open Go.RowKit Go.Proofs.YtjeamaahhpbbkaaDoorW.PrintWords Go.Proofs.YtjeamaahhpbbkaaDoor.PAll Go.Proofs.YtjeamaahhpbbkaaDoor.Opens
def ok5 (n : Int) : Prop := 0 ≤ n ∧ n ≤ 255
theorem op5 : Opens Tryd.prog 5 (Kd.int .u8) ok5 := opens_mono (opens_int Tryd.underlying5 (by kernel_rfl)) (fun _ h => bounds_u8 h)
def ok40 (n : Int) : Prop := 0 ≤ n ∧ n ≤ 65535
theorem op40 : Opens Tryd.prog 40 (Kd.int .u16) ok40 := opens_mono (opens_int Tryd.underlying40 (by kernel_rfl)) (fun _ h => bounds_u16 h)
instance : Inhabited S65 := ⟨z65⟩
def ok65 (x : S65) : Prop := ok40 x.f0 ∧ ok40 x.f1 ∧ ok40 x.f2
theorem op65 : Opens Tryd.prog 65 k65 ok65 := opens_iso (fun x : S65 => (x.f0, x.f1, x.f2)) (fun p => (⟨p.1, p.2.1, p.2.2⟩ : S65)) (fun _ => rfl) (opens_array Tryd.underlying65 (by kernel_rfl) (opensL_cons op40 (opensL_cons op40 (opensL_one op40))))
def ok41 (l : List S65) : Prop := l.length ≤ maxLen ∧ ∀ x ∈ l, ok65 x
theorem op41 : Opens Tryd.prog 41 (Kd.slice 65 k65) ok41 := opens_slice (α := S65) Tryd.underlying41 (by kernel_rfl) op65
instance : Inhabited S66 := ⟨z66⟩
def ok66 (x : S66) : Prop := ok40 x.f0 ∧ ok40 x.f1
theorem op66 : Opens Tryd.prog 66 k66 ok66 := opens_iso (fun x : S66 => (x.f0, x.f1)) (fun p => (⟨p.1, p.2⟩ : S66)) (fun _ => rfl) (opens_array Tryd.underlying66 (by kernel_rfl) (opensL_cons op40 (opensL_one op40)))
def ok52 (l : List S66) : Prop := l.length ≤ maxLen ∧ ∀ x ∈ l, ok66 x
theorem op52 : Opens Tryd.prog 52 (Kd.slice 66 k66) ok52 := opens_slice (α := S66) Tryd.underlying52 (by kernel_rfl) op66
end Go.Proofs.YtjeamaahhpbbkaaDoor.Types
