/- Tenths: the program's rationals at these numbers, by the kernel. -/
import Derived.Test.YtjeamaahhpbbkaaDoorPAllx11
import Derived.Test.YtjeamaahhpbbkaaDoorPAllx8
import Derived.Test.YtjeamaahhpbbkaaDoorPAllx3
import Derived.Test.YtjeamaahhpbbkaaDoorPAllx13
namespace Go.Proofs.YtjeamaahhpbbkaaDoor.PB
open Go.RowKit Go.Proofs.YtjeamaahhpbbkaaDoorW.PrintWords Go.Proofs.YtjeamaahhpbbkaaDoor.PAll

/-- j tenths, in lowest terms. -/
def qs (j : Nat) : S33 := if j = 0 then z33 else if Nat.gcd j 10 = 10 then ⟨false, ⟨#[UInt8.ofNat (j / 10)]⟩, ⟨#[]⟩⟩ else ⟨false, ⟨#[UInt8.ofNat (j / Nat.gcd j 10)]⟩, ⟨#[UInt8.ofNat (10 / Nat.gcd j 10)]⟩⟩
def tup (x : S33) : Bool × ByteArray × ByteArray := (x.f0, x.f1, x.f2)
set_option maxRecDepth 100000
theorem ratio_tab : (List.range 7).map (fun v : Nat => insolvencylaw0_Ratio.f 40 ((v + 1 : Nat) : Int) 10) = (List.range 7).map (fun v : Nat => some (tup (qs (v + 1)))) := by kernel_rfl
theorem ratio10 (v : Nat) (h1 : 1 ≤ v) (h7 : v ≤ 7) : Ev (fun k => insolvencylaw0_Ratio.f k (v : Int) 10) (tup (qs v)) := by
  obtain ⟨u, rfl⟩ : ∃ u, v = u + 1 := ⟨v - 1, by omega⟩
  exact Ev.of (fun k => insolvencylaw0_Ratio.mono _ _ k) (k := 40) (List.map_inj_left.1 ratio_tab u (List.mem_range.2 (by omega)))
theorem ratio_half : Ev (fun k => insolvencylaw0_Ratio.f k 1 2) (tup (qs 5)) := Ev.of (fun k => insolvencylaw0_Ratio.mono _ _ k) (k := 40) (by kernel_rfl)
theorem half_ev : Ev (fun k => party_half.f k) (tup (qs 5)) := Ev.of (fun k => party_half.mono k) (k := 40) (by kernel_rfl)
theorem int1 : Ev (fun k => rational_Int.f k 1) (tup (qs 10)) := Ev.of (fun k => rational_Int.mono _ k) (k := 40) (by kernel_rfl)
theorem sign_tab : (List.range 7).map (fun v => rational_Sign.f 40 (qs (v + 1)).f0 (qs (v + 1)).f1 (qs (v + 1)).f2) = (List.range 7).map (fun _ => some 1) := by kernel_rfl
theorem sign10 (v : Nat) (h1 : 1 ≤ v) (h7 : v ≤ 7) : Ev (fun k => rational_Sign.f k (qs v).f0 (qs v).f1 (qs v).f2) 1 := by
  obtain ⟨u, rfl⟩ : ∃ u, v = u + 1 := ⟨v - 1, by omega⟩
  exact Ev.of (fun k => rational_Sign.mono _ _ _ k) (k := 40) (List.map_inj_left.1 sign_tab u (List.mem_range.2 (by omega)))
theorem add_tab : (List.range 77).map (fun m => if m / 7 + (m % 7 + 1) ≤ 10 then rational_Add.f 40 (qs (m / 7)).f0 (qs (m / 7)).f1 (qs (m / 7)).f2 (qs (m % 7 + 1)).f0 (qs (m % 7 + 1)).f1 (qs (m % 7 + 1)).f2 else none) = (List.range 77).map (fun m => if m / 7 + (m % 7 + 1) ≤ 10 then some (tup (qs (m / 7 + (m % 7 + 1)))) else none) := by kernel_rfl
theorem add10 (i v : Nat) (h1 : 1 ≤ v) (h7 : v ≤ 7) (h : i + v ≤ 10) : Ev (fun k => rational_Add.f k (qs i).f0 (qs i).f1 (qs i).f2 (qs v).f0 (qs v).f1 (qs v).f2) (tup (qs (i + v))) := by
  have e := List.map_inj_left.1 add_tab (i * 7 + (v - 1)) (List.mem_range.2 (by omega))
  have d1 : (i * 7 + (v - 1)) / 7 = i := by omega
  have d2 : (i * 7 + (v - 1)) % 7 + 1 = v := by omega
  simp only [d1, d2, if_pos h] at e
  exact Ev.of (fun k => rational_Add.mono _ _ _ _ _ _ k) (k := 40) e
def sg (j h : Nat) : Int := if j < h then -1 else if j = h then 0 else 1
theorem cmp_tab5 : (List.range 11).map (fun j => rational_Compare.f 40 (qs j).f0 (qs j).f1 (qs j).f2 (qs 5).f0 (qs 5).f1 (qs 5).f2) = (List.range 11).map (fun j => some (sg j 5)) := by kernel_rfl
theorem cmp5 (j : Nat) (h : j ≤ 10) : Ev (fun k => rational_Compare.f k (qs j).f0 (qs j).f1 (qs j).f2 (qs 5).f0 (qs 5).f1 (qs 5).f2) (sg j 5) :=
  Ev.of (fun k => rational_Compare.mono _ _ _ _ _ _ k) (k := 40) (List.map_inj_left.1 cmp_tab5 j (List.mem_range.2 (by omega)))
theorem cmp_tab10 : (List.range 11).map (fun j => rational_Compare.f 40 (qs j).f0 (qs j).f1 (qs j).f2 (qs 10).f0 (qs 10).f1 (qs 10).f2) = (List.range 11).map (fun j => some (sg j 10)) := by kernel_rfl
theorem cmp10 (j : Nat) (h : j ≤ 10) : Ev (fun k => rational_Compare.f k (qs j).f0 (qs j).f1 (qs j).f2 (qs 10).f0 (qs 10).f1 (qs 10).f2) (sg j 10) :=
  Ev.of (fun k => rational_Compare.mono _ _ _ _ _ _ k) (k := 40) (List.map_inj_left.1 cmp_tab10 j (List.mem_range.2 (by omega)))
theorem sg5 (j : Nat) : sg j 5 > 0 ↔ 5 < j := by
  unfold sg
  split
  · omega
  · split <;> omega
theorem sg10 (j : Nat) (h : j ≤ 10) : ¬ sg j 10 > 0 := by
  unfold sg
  split
  · omega
  · split <;> omega
end Go.Proofs.YtjeamaahhpbbkaaDoor.PB
