/- Sums of equal small votes: the program's rationals at these numbers, by the kernel. -/
import Derived.Test.YtjeamaahhpbbkaaDoorPAllx11
import Derived.Test.YtjeamaahhpbbkaaDoorPAllx8
import Derived.Test.YtjeamaahhpbbkaaDoorPAllx3
namespace Go.Proofs.YtjeamaahhpbbkaaDoor.PT
open Go.RowKit Go.Proofs.YtjeamaahhpbbkaaDoorW.PrintWords Go.Proofs.YtjeamaahhpbbkaaDoor.PAll

/-- j parts out of n, in lowest terms. -/
def qs (n j : Nat) : S33 := if j = 0 then z33 else if Nat.gcd j n = n then ⟨false, ⟨#[UInt8.ofNat (j / n)]⟩, ⟨#[]⟩⟩ else ⟨false, ⟨#[UInt8.ofNat (j / Nat.gcd j n)]⟩, ⟨#[UInt8.ofNat (n / Nat.gcd j n)]⟩⟩
def tup (x : S33) : Bool × ByteArray × ByteArray := (x.f0, x.f1, x.f2)
set_option maxRecDepth 100000
theorem ratio70 : Ev (fun k => insolvencylaw0_Ratio.f k 1 70) (tup (qs 70 1)) := Ev.of (fun k => insolvencylaw0_Ratio.mono _ _ k) (k := 40) (by kernel_rfl)
theorem sign70 : Ev (fun k => rational_Sign.f k (qs 70 1).f0 (qs 70 1).f1 (qs 70 1).f2) 1 := Ev.of (fun k => rational_Sign.mono _ _ _ k) (k := 40) (by kernel_rfl)
theorem int1 : Ev (fun k => rational_Int.f k 1) (false, ⟨#[1]⟩, ⟨#[]⟩) := Ev.of (fun k => rational_Int.mono _ k) (k := 40) (by kernel_rfl)
theorem add_tab : (List.range 64).map (fun j => rational_Add.f 40 (qs 70 j).f0 (qs 70 j).f1 (qs 70 j).f2 (qs 70 1).f0 (qs 70 1).f1 (qs 70 1).f2) = (List.range 64).map (fun j => some (tup (qs 70 (j + 1)))) := by kernel_rfl
theorem add70 (j : Nat) (h : j < 64) : Ev (fun k => rational_Add.f k (qs 70 j).f0 (qs 70 j).f1 (qs 70 j).f2 (qs 70 1).f0 (qs 70 1).f1 (qs 70 1).f2) (tup (qs 70 (j + 1))) :=
  Ev.of (fun k => rational_Add.mono _ _ _ _ _ _ k) (k := 40) (List.map_inj_left.1 add_tab j (List.mem_range.2 h))
theorem cmp_tab : (List.range 65).map (fun j => rational_Compare.f 40 (qs 70 j).f0 (qs 70 j).f1 (qs 70 j).f2 false ⟨#[1]⟩ ⟨#[]⟩) = (List.range 65).map (fun _ => some (-1)) := by kernel_rfl
theorem cmp70 (j : Nat) (h : j < 65) : Ev (fun k => rational_Compare.f k (qs 70 j).f0 (qs 70 j).f1 (qs 70 j).f2 false ⟨#[1]⟩ ⟨#[]⟩) (-1) :=
  Ev.of (fun k => rational_Compare.mono _ _ _ _ _ _ k) (k := 40) (List.map_inj_left.1 cmp_tab j (List.mem_range.2 h))
end Go.Proofs.YtjeamaahhpbbkaaDoor.PT
