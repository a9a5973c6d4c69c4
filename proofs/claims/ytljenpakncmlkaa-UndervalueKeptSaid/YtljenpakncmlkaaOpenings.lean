/- insolvencylaw27.openings, walked by hand: four numbers out of four bytes. -/
import Derived.Test.YtljenpakncmlkaaPAllx0
namespace Go.Proofs.Ytljenpakncmlkaa.PAll
open Go.RowKit Go.Proofs.YtljenpakncmlkaaW.PrintWords Go.Proofs.YtljenpakncmlkaaW.PrintLast Go.Proofs.YtljenpakncmlkaaW.PrintMore
set_option linter.unusedSimpArgs false
set_option linter.unusedVariables false

def opn (a : Int) : Int := a % 60 - 15
def opnL (a b c d : Int) : Nat → List Int
  | 0 => []
  | 1 => [opn a]
  | 2 => [opn a, opn b]
  | 3 => [opn a, opn b, opn c]
  | _ => [opn a, opn b, opn c, opn d]
def insolvencylaw27_openings.f (_k : Nat) (a b c d : Int) : Option (List Int) :=
  if (0 ≤ a ∧ a < 256) ∧ (0 ≤ b ∧ b < 256) ∧ (0 ≤ c ∧ c < 256) ∧ (0 ≤ d ∧ d < 256) then some (opnL a b c d 4) else none
theorem insolvencylaw27_openings.mono : ∀ a b c d k, LeO (insolvencylaw27_openings.f k a b c d) (insolvencylaw27_openings.f (k + 1) a b c d) := fun _ _ _ _ _ => LeO.refl _
@[local go_sem] theorem idxA0 (g : Nat) (w : World) : Sem.run Try.prog (Instr.indexAt 23 (.pointer (some ⟨g, 0, none⟩)) (.int .i64 0)) w = .ok (.pointer (some ⟨g, 0, none⟩)) w := by kernel_rfl
@[local go_sem] theorem idxA1 (g : Nat) (w : World) : Sem.run Try.prog (Instr.indexAt 23 (.pointer (some ⟨g, 0, none⟩)) (.int .i64 1)) w = .ok (.pointer (some ⟨g, 1, none⟩)) w := by kernel_rfl
@[local go_sem] theorem idxA2 (g : Nat) (w : World) : Sem.run Try.prog (Instr.indexAt 23 (.pointer (some ⟨g, 0, none⟩)) (.int .i64 2)) w = .ok (.pointer (some ⟨g, 2, none⟩)) w := by kernel_rfl
@[local go_sem] theorem idxA3 (g : Nat) (w : World) : Sem.run Try.prog (Instr.indexAt 23 (.pointer (some ⟨g, 0, none⟩)) (.int .i64 3)) w = .ok (.pointer (some ⟨g, 3, none⟩)) w := by kernel_rfl

set_option maxHeartbeats 4000000 in
set_option maxRecDepth 100000 in
theorem insolvencylaw27_openings.calls (k : Nat) (a b c d : Int) (r : List Int) (w : World) (h : insolvencylaw27_openings.f k a b c d = some r) :
    Calls Try.prog 10 #[.agg #[.int .u8 a, .int .u8 b, .int .u8 c, .int .u8 d]] w fun e w' => ∃ v0_ : Value, e = .returned v0_ ∧ Kd.R (Kd.int .i64) 2 w' w.heap.size (fun _ => True) v0_ r ∧ Below w.heap.size w w' := by
  unfold insolvencylaw27_openings.f at h
  split at h
  case isFalse => exact absurd h (by simp)
  rename_i hr
  obtain rfl := Option.some.inj h
  obtain ⟨⟨a0, a1⟩, ⟨b0, b1⟩, ⟨c0, c1⟩, d0, d1⟩ := hr
  have HB := Aside0.mk (Below.refl w.heap.size w)
  go_enter Try.func10, Try.ntmps10
  go_wp2_with (first | ((with_reducible refine gate_dst (N := 1) rfl ?_); refine box_event ?hg (N := 1) ?hd (cs := #[.int .u8 a, .int .u8 b, .int .u8 c, .int .u8 d]) (t := 23) ?hr ?_; (case hd => rfl); (case hg => rfl); (case hr => first | (go_simp; done) | (go_simp; rfl)); intro gb hg w4 hbox hb; have n0_ := Aside0.mk (below_step HB.out hb); have BK := Aside0.mk hbox; clear HB hbox hb; have HB := n0_; clear n0_ hg))
  go_loopg [3, 4] 4 (fun kq v3 v4 w' => ∃ i : Nat, Aside0 (kq = 4 - i) ∧ Aside0 (i ≤ 4) ∧ v4 = .int .i64 (i : Int) ∧ Aside0 (Kd.R (Kd.int .i64) 2 w' w.heap.size (fun k => k ≠ gb) v3 (opnL a b c d i)) ∧ Aside0 (w'.heap[gb]? = some (.cells #[.int .u8 a, .int .u8 b, .int .u8 c, .int .u8 d] 23 (0, 0))) ∧ Aside0 (Below w.heap.size w w'))
  case atStart => exact ⟨0, ⟨rfl⟩, ⟨by omega⟩, rfl, ⟨Kd.R_nil _ _ _ _ _⟩, BK, HB⟩
  case round =>
    clear HB BK
    obtain ⟨i, HK, HI, rfl, HR, BK, HB⟩ := hrel
    have z0 : wr.cell? ⟨gb, 0, none⟩ = some (.int .u8 a) := (blk_cell BK.out 0).trans rfl
    have z1 : wr.cell? ⟨gb, 1, none⟩ = some (.int .u8 b) := (blk_cell BK.out 1).trans rfl
    have z2 : wr.cell? ⟨gb, 2, none⟩ = some (.int .u8 c) := (blk_cell BK.out 2).trans rfl
    have z3 : wr.cell? ⟨gb, 3, none⟩ = some (.int .u8 d) := (blk_cell BK.out 3).trans rfl
    rcases (by have := HI.out; omega : i = 0 ∨ i = 1 ∨ i = 2 ∨ i = 3 ∨ i = 4) with rfl | rfl | rfl | rfl | rfl
    · go_wp2_with (first | ((with_reducible refine gate_builtin (b := .append) (xs := #[.tmp 9, .tmp 16]) rfl ?_); at_builtin; refine Kd.R_append (Kd.int .i64) (w0 := w) w.heap.size rfl (.tmp 9) (.tmp 16) 25 2 (.int .i64 0) 8 rfl Try.underlying25 info2 rfl (by decide) (by omega) u3 (opnL a b c d 0) (opn a) [.int .i64 (opn a)] (fun k => k ≠ gb) (fun _ => False) rfl rfl ?aP (fun _ hk => hk.elim) ?aF ?aO ?aB ?aS ?aL ?_; (case aP => exact rfl); (case aF => exact (fun k hk => by have h1 := blk_lt BK.out; intro e; subst e; exact absurd h1 (Nat.not_lt.mpr hk))); (case aO => exact (by (with_reducible repeat (first | apply Kd.R_alloc | apply Kd.R_drewN | apply Kd.R_drew)); exact HR.out)); (case aB => exact HB.out); (case aS => exact below_size HB.out); (case aL => simp [opnL]); intro v1 w8 ho hb hg hat; have n0_ := Aside0.mk ho; have n1_ := Aside0.mk ((hg.block gb (blk_lt BK.out) (fun e => HR.out.1 gb e.symm rfl)).trans BK.out); have n2_ := Aside0.mk hb; clear HR BK HB z0 z1 z2 z3 ho hb hg hat; have HR := n0_; have BK := n1_; have HB := n2_; clear n0_ n1_ n2_))
      go_roundg 3
      case measure => have := HK.out; omega
      case rel => exact ⟨1, ⟨by omega⟩, ⟨by omega⟩, by go_num, HR, BK, HB⟩
    · go_wp2_with (first | ((with_reducible refine gate_builtin (b := .append) (xs := #[.tmp 9, .tmp 16]) rfl ?_); at_builtin; refine Kd.R_append (Kd.int .i64) (w0 := w) w.heap.size rfl (.tmp 9) (.tmp 16) 25 2 (.int .i64 0) 8 rfl Try.underlying25 info2 rfl (by decide) (by omega) u3 (opnL a b c d 1) (opn b) [.int .i64 (opn b)] (fun k => k ≠ gb) (fun _ => False) rfl rfl ?aP (fun _ hk => hk.elim) ?aF ?aO ?aB ?aS ?aL ?_; (case aP => exact rfl); (case aF => exact (fun k hk => by have h1 := blk_lt BK.out; intro e; subst e; exact absurd h1 (Nat.not_lt.mpr hk))); (case aO => exact (by (with_reducible repeat (first | apply Kd.R_alloc | apply Kd.R_drewN | apply Kd.R_drew)); exact HR.out)); (case aB => exact HB.out); (case aS => exact below_size HB.out); (case aL => simp [opnL]); intro v1 w8 ho hb hg hat; have n0_ := Aside0.mk ho; have n1_ := Aside0.mk ((hg.block gb (blk_lt BK.out) (fun e => HR.out.1 gb e.symm rfl)).trans BK.out); have n2_ := Aside0.mk hb; clear HR BK HB z0 z1 z2 z3 ho hb hg hat; have HR := n0_; have BK := n1_; have HB := n2_; clear n0_ n1_ n2_))
      go_roundg 2
      case measure => have := HK.out; omega
      case rel => exact ⟨2, ⟨by omega⟩, ⟨by omega⟩, by go_num, HR, BK, HB⟩
    · go_wp2_with (first | ((with_reducible refine gate_builtin (b := .append) (xs := #[.tmp 9, .tmp 16]) rfl ?_); at_builtin; refine Kd.R_append (Kd.int .i64) (w0 := w) w.heap.size rfl (.tmp 9) (.tmp 16) 25 2 (.int .i64 0) 8 rfl Try.underlying25 info2 rfl (by decide) (by omega) u3 (opnL a b c d 2) (opn c) [.int .i64 (opn c)] (fun k => k ≠ gb) (fun _ => False) rfl rfl ?aP (fun _ hk => hk.elim) ?aF ?aO ?aB ?aS ?aL ?_; (case aP => exact rfl); (case aF => exact (fun k hk => by have h1 := blk_lt BK.out; intro e; subst e; exact absurd h1 (Nat.not_lt.mpr hk))); (case aO => exact (by (with_reducible repeat (first | apply Kd.R_alloc | apply Kd.R_drewN | apply Kd.R_drew)); exact HR.out)); (case aB => exact HB.out); (case aS => exact below_size HB.out); (case aL => simp [opnL]); intro v1 w8 ho hb hg hat; have n0_ := Aside0.mk ho; have n1_ := Aside0.mk ((hg.block gb (blk_lt BK.out) (fun e => HR.out.1 gb e.symm rfl)).trans BK.out); have n2_ := Aside0.mk hb; clear HR BK HB z0 z1 z2 z3 ho hb hg hat; have HR := n0_; have BK := n1_; have HB := n2_; clear n0_ n1_ n2_))
      go_roundg 1
      case measure => have := HK.out; omega
      case rel => exact ⟨3, ⟨by omega⟩, ⟨by omega⟩, by go_num, HR, BK, HB⟩
    · go_wp2_with (first | ((with_reducible refine gate_builtin (b := .append) (xs := #[.tmp 9, .tmp 16]) rfl ?_); at_builtin; refine Kd.R_append (Kd.int .i64) (w0 := w) w.heap.size rfl (.tmp 9) (.tmp 16) 25 2 (.int .i64 0) 8 rfl Try.underlying25 info2 rfl (by decide) (by omega) u3 (opnL a b c d 3) (opn d) [.int .i64 (opn d)] (fun k => k ≠ gb) (fun _ => False) rfl rfl ?aP (fun _ hk => hk.elim) ?aF ?aO ?aB ?aS ?aL ?_; (case aP => exact rfl); (case aF => exact (fun k hk => by have h1 := blk_lt BK.out; intro e; subst e; exact absurd h1 (Nat.not_lt.mpr hk))); (case aO => exact (by (with_reducible repeat (first | apply Kd.R_alloc | apply Kd.R_drewN | apply Kd.R_drew)); exact HR.out)); (case aB => exact HB.out); (case aS => exact below_size HB.out); (case aL => simp [opnL]); intro v1 w8 ho hb hg hat; have n0_ := Aside0.mk ho; have n1_ := Aside0.mk ((hg.block gb (blk_lt BK.out) (fun e => HR.out.1 gb e.symm rfl)).trans BK.out); have n2_ := Aside0.mk hb; clear HR BK HB z0 z1 z2 z3 ho hb hg hat; have HR := n0_; have BK := n1_; have HB := n2_; clear n0_ n1_ n2_))
      go_roundg 0
      case measure => have := HK.out; omega
      case rel => exact ⟨4, ⟨by omega⟩, ⟨by omega⟩, by go_num, HR, BK, HB⟩
    · go_wp2
      go_ret
      exact ⟨_, rfl, Kd.R_mono HR.out (fun _ _ => trivial), HB.out⟩
end Go.Proofs.Ytljenpakncmlkaa.PAll
