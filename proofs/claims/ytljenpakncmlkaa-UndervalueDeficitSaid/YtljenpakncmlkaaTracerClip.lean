/- The tracer's clip, walked by hand: one pass over the parties. -/
import Derived.Test.YtljenpakncmlkaaTracer
namespace Go.Proofs.Ytljenpakncmlkaa.Tr
open Go.RowKit Go.Proofs.YtljenpakncmlkaaW.PrintWords Go.Proofs.YtljenpakncmlkaaW.PrintLast Go.Proofs.YtljenpakncmlkaaW.PrintMore Go.Proofs.Ytljenpakncmlkaa.PAll
attribute [local go_sem] max2_int min2_int max_two min_two

/-- One party's traced part, cut down to its balance. -/
def clipStep (bal : List Int) (s : List Int × Int) (i : Nat) : List Int × Int :=
  if mx (rd bal i) 0 < rd s.1 i then (s.1.set i (mx (rd bal i) 0), wrap64 (s.2 + wrap64 (rd s.1 i - mx (rd bal i) 0))) else s
def clipF (bal tr : List Int) (lost : Int) (n : Nat) : List Int × Int := (List.range n).foldl (clipStep bal) (tr, lost)
theorem clipF_succ (bal tr : List Int) (lost : Int) (i : Nat) : clipF bal tr lost (i + 1) = clipStep bal (clipF bal tr lost i) i := by
  unfold clipF; rw [List.range_succ, List.foldl_append]; rfl

set_option maxHeartbeats 4000000 in
set_option maxRecDepth 100000 in
theorem clip (w : World) {base gt g1 g2 n c1 c2 : Nat} {bal tr : List Int} {lost : Int} (st : St w base gt g1 g2 n c1 c2 bal tr lost) (hn63 : n ≤ 9223372036854775807) :
    Calls Try.prog 21 #[.pointer (some ⟨gt, 0, none⟩)] w fun e w' => e = .returned (.tuple #[]) ∧
      St w' base gt g1 g2 n c1 c2 bal (clipF bal tr lost n).1 (clipF bal tr lost n).2 ∧ Kp gt g1 g2 w w' := by
  have hu1 := Try.underlying49
  have x1 : w.cell? ⟨gt, 1, none⟩ = some (.slice (some ⟨g2, 0, none⟩) n c2) := (blk_cell st.blk 1).trans rfl
  go_enter Try.func21, Try.ntmps21
  go_wp2
  go_loopg [10] n (fun kq v10 w' => ∃ i : Nat, Aside0 (kq = n - i) ∧ Aside0 (i ≤ n) ∧ v10 = .int .i64 (i : Int) ∧ Aside0 (St w' base gt g1 g2 n c1 c2 bal (clipF bal tr lost i).1 (clipF bal tr lost i).2) ∧ Aside0 (Kp gt g1 g2 w w'))
  case atStart => exact ⟨0, ⟨rfl⟩, ⟨Nat.zero_le _⟩, rfl, ⟨st⟩, ⟨Kp.refl _⟩⟩
  case round =>
    clear x1
    obtain ⟨i, HK, HI, rfl, HS, HP⟩ := hrel
    have x0 : wr.cell? ⟨gt, 0, none⟩ = some (.slice (some ⟨g1, 0, none⟩) n c1) := (blk_cell HS.out.blk 0).trans rfl
    have x1 : wr.cell? ⟨gt, 1, none⟩ = some (.slice (some ⟨g2, 0, none⟩) n c2) := (blk_cell HS.out.blk 1).trans rfl
    have x2 : wr.cell? ⟨gt, 2, none⟩ = some (.int .i64 (clipF bal tr lost i).2) := (blk_cell HS.out.blk 2).trans rfl
    have z0 := blk_frozen HS.out.blk 2
    have n1 := HS.out.ne1
    have n2 := HS.out.ne2
    have n3 := HS.out.ne
    by_cases hlt : i < n
    · have h0 : (0 : Int) ≤ (i : Int) := by omega
      have h1 : (i : Int) < (n : Int) := by omega
      obtain ⟨y1, _⟩ := own_at HS.out.ob (i : Int) h0 h1
      obtain ⟨y2, v2⟩ := own_at HS.out.ot (i : Int) h0 h1
      rw [Int.toNat_natCast] at y1 y2 v2
      have b1 : decide ((i : Int) < (n : Int)) = true := decide_eq_true h1
      have b2 : decide (i < n) = true := decide_eq_true hlt
      have HH : Aside0 (clipF bal tr lost (i + 1) = clipStep bal (clipF bal tr lost i) i) := Aside0.mk (clipF_succ bal tr lost i)
      generalize clipF bal tr lost i = C0 at *
      obtain ⟨T, L⟩ := C0
      simp only at HS x2 y2
      by_cases c : rd bal (i : Int) < 0
      · have cc : decide (rd bal (i : Int) < 0) = true := decide_eq_true c
        by_cases d : 0 < rd T (i : Int)
        · have dd : decide (0 < rd T (i : Int)) = true := decide_eq_true d
          have HC : Aside0 ((clipF bal tr lost (i + 1)).1 = T.set i 0 ∧ (clipF bal tr lost (i + 1)).2 = wrap64 (L + wrap64 (rd T (i : Int)))) := Aside0.mk (by rw [HH.out]; simp [clipStep, mx, c, d])
          clear HH
          go_wp2
          go_roundg (n - (i + 1))
          case measure => have := HK.out; omega
          case rel => exact ⟨i + 1, ⟨rfl⟩, ⟨hlt⟩, by go_num, ⟨by rw [HC.out.1, HC.out.2]; exact St.setT (St.setL HS.out _) (i : Int) 0⟩, ⟨(HP.out.setL _ _).setT _ _⟩⟩
        · have dd : decide (0 < rd T (i : Int)) = false := decide_eq_false d
          have HC : Aside0 ((clipF bal tr lost (i + 1)).1 = T ∧ (clipF bal tr lost (i + 1)).2 = L) := Aside0.mk (by rw [HH.out]; simp [clipStep, mx, c, d])
          clear HH
          go_wp2
          go_roundg (n - (i + 1))
          case measure => have := HK.out; omega
          case rel => exact ⟨i + 1, ⟨rfl⟩, ⟨hlt⟩, by go_num, ⟨by rw [HC.out.1, HC.out.2]; exact HS.out⟩, ⟨HP.out⟩⟩
      · have cc : decide (rd bal (i : Int) < 0) = false := decide_eq_false c
        by_cases d : rd bal (i : Int) < rd T (i : Int)
        · have dd : decide (rd bal (i : Int) < rd T (i : Int)) = true := decide_eq_true d
          have HC : Aside0 ((clipF bal tr lost (i + 1)).1 = T.set i (rd bal (i : Int)) ∧ (clipF bal tr lost (i + 1)).2 = wrap64 (L + wrap64 (rd T (i : Int) - rd bal (i : Int)))) := Aside0.mk (by rw [HH.out]; simp [clipStep, mx, c, d])
          clear HH
          go_wp2
          go_roundg (n - (i + 1))
          case measure => have := HK.out; omega
          case rel => exact ⟨i + 1, ⟨rfl⟩, ⟨hlt⟩, by go_num, ⟨by rw [HC.out.1, HC.out.2]; exact St.setT (St.setL HS.out _) (i : Int) _⟩, ⟨(HP.out.setL _ _).setT _ _⟩⟩
        · have dd : decide (rd bal (i : Int) < rd T (i : Int)) = false := decide_eq_false d
          have HC : Aside0 ((clipF bal tr lost (i + 1)).1 = T ∧ (clipF bal tr lost (i + 1)).2 = L) := Aside0.mk (by rw [HH.out]; simp [clipStep, mx, c, d])
          clear HH
          go_wp2
          go_roundg (n - (i + 1))
          case measure => have := HK.out; omega
          case rel => exact ⟨i + 1, ⟨rfl⟩, ⟨hlt⟩, by go_num, ⟨by rw [HC.out.1, HC.out.2]; exact HS.out⟩, ⟨HP.out⟩⟩
    · have b1 : decide ((i : Int) < (n : Int)) = false := decide_eq_false (by omega)
      have b2 : decide (i < n) = false := decide_eq_false hlt
      go_wp2
      go_end0
      obtain rfl : i = n := by have := HI.out; omega
      exact ⟨rfl, HS.out, HP.out⟩
end Go.Proofs.Ytljenpakncmlkaa.Tr
