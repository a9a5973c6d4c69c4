/- The row of the law PartyChain: its walk is the print's, its statement over numbers and lists the session's. It speaks of every input that reads as data. -/
import Derived.Test.YtjeamaahhpbbkaaDoorRows
import Derived.Test.YtjeamaahhpbbkaaDoorCards
import Derived.Test.YtjeamaahhpbbkaaDoorTie
import Derived.SevenTiedAt
import Derived.LaidMore
import Derived.Lay
import Derived.Stop.Joined
import Derived.Test.YtjeamaahhpbbkaaDoorPurePartyChain
import Derived.WalkKit
import Derived.ProofKit
import Derived.OpenShut
import Derived.ShutString
import Derived.ChangeOld
import Derived.Below
import Derived.SizedLaws
namespace Go.Proofs.YtjeamaahhpbbkaaDoor.TPartyChain
open Go.ChangeShapes Go.WideShapes Go.ChangeAt Go.RowKit Go.Proofs.YtjeamaahhpbbkaaDoorW.PrintWords Go.Proofs.YtjeamaahhpbbkaaDoor.PAll Go.Proofs.YtjeamaahhpbbkaaDoor.Opens Go.Proofs.YtjeamaahhpbbkaaDoor.Types
open Go.ChangeMaps (open_string shut_string)
set_option linter.unusedVariables false
theorem own : ownKnob Tryd.prog.godebug = none := by kernel_rfl
theorem laidOut : laidOutB Tryd.prog = true := by kernel_rfl
theorem okWide_array {P : Program} {w : World} {r : Reach} {b : Nat} {t e : TypeId} {v : Value} {m : Nat} (ht : P.underlying t = some (.array m e)) (h : Value.okWide P w r b t v) : ∃ cs, v = .agg cs ∧ cs.size = P.cellsOf t := by
  simp only [Value.okWide, ht] at h
  obtain ⟨cs, h1, h2, _⟩ := h
  exact ⟨cs, h1, h2⟩
set_option maxHeartbeats 4000000 in
set_option maxRecDepth 100000 in
theorem lifted (os : Os) (started : os.Started) (H : Type) (enc : TypeId × Value → H) :
    ReturnsInHanded {} Tryd.checked os 7 .any (fun w args => (Rows.partyChainSpec.pre enc Tryd.prog Tryd.f7 Rows.partyChainRow.domain false w args ∧ laidMetH Tryd.prog Rows.partyChainRow.laid w) ∧ sizedMet enc Tryd.prog Tryd.f7 (OpenSpec.ofChange Rows.partyChainSpec) false w args) (Rows.partyChainSpec.post enc Tryd.prog Tryd.f7 false true false false) := by
  refine returnsInHanded_of_change_and (C := Tryd.checked) (X := fun w _ => laidMetH Tryd.prog Rows.partyChainRow.laid w) (fun _ _ _ hh h => h.of_heap hh) own started (by kernel_rfl) Tryd.func7
    (ChangeSpec.witness_shaped (enc := enc) (C := Tryd.checked) (os := os) (X := fun w _ => laidMetH Tryd.prog Rows.partyChainRow.laid w) false (World.laidAll Tryd.prog os Rows.partyChainRow.laid) #[.int .u8 0, .int .u16 0, .slice none 0 0] 8 (World.laidAll_os _ _ _)
      (World.shaped_of_ZipB (by kernel_rfl) (by kernel_rfl)) (by kernel_rfl) (by kernel_rfl) (by kernel_rfl)
      (by rw [MakeChecks.laidMetH_plain _ _ _ (by kernel_rfl)]; exact laidMet_laidAll _ (by kernel_rfl) (by kernel_rfl))) ?_
  intro W base args ds gs before hval0 hW hcnd _ hL _
  have hval : ∀ (j : Nat) t v, Tryd.f7.params[j]? = some t → args[j]? = some v → Value.okWide Tryd.prog W .any base t v := hval0
  have hW' := hW
  obtain ⟨p, q, hA0, hV, rfl, hfz, hnd⟩ := hW
  have hA : DataW.TrodAll enc Tryd.prog W 0 (fun _ => true) true Tryd.f7.params.toList args.toList ds p := hA0
  rw [Tryd.params7] at hA hval
  obtain ⟨v0, vs0, d0, ds0, p0, q0, hargs, rfl, rfl, h0, r0⟩ := trodAll_cons hA
  obtain ⟨v1, vs1, d1, ds1, p1, q1, rfl, rfl, rfl, h1, r1⟩ := trodAll_cons r0
  obtain ⟨v2, vs2, d2, ds2, p2, q2, rfl, rfl, rfl, h2, r2⟩ := trodAll_cons r1
  obtain ⟨rfl, rfl, rfl⟩ := trodAll_nil r2
  obtain rfl : args = #[v0, v1, v2] := by cases args; simp_all
  obtain ⟨rfl, rfl⟩ := trodVars_none hV
  have lt0 : ∀ x ∈ p0, x.block < W.heap.size := by obtain ⟨m, hm⟩ := h0; exact DataW.trod_lt m _ _ _ hm
  obtain ⟨a0, K0, ok0_⟩ := opens_arg op5 h0
  obtain ⟨b0, rfl, _, _, _⟩ := open_int Tryd.underlying5 (hval 0 5 v0 rfl rfl) h0
  obtain rfl : a0 = b0 := by have e := K0; symm; simpa [Kd.int, Kd.scalar, Value.cells] using e
  have lt1 : ∀ x ∈ p1, x.block < W.heap.size := by obtain ⟨m, hm⟩ := h1; exact DataW.trod_lt m _ _ _ hm
  obtain ⟨a1, K1, ok1_⟩ := opens_arg op40 h1
  obtain ⟨b1, rfl, _, _, _⟩ := open_int Tryd.underlying40 (hval 1 40 v1 rfl rfl) h1
  obtain rfl : a1 = b1 := by have e := K1; symm; simpa [Kd.int, Kd.scalar, Value.cells] using e
  have lt2 : ∀ x ∈ p2, x.block < W.heap.size := by obtain ⟨m, hm⟩ := h2; exact DataW.trod_lt m _ _ _ hm
  obtain ⟨a2, K2, ok2_⟩ := opens_arg op41 h2
  obtain ⟨A2, len2, c2, rfl⟩ := okWide_slice Tryd.underlying41 (hval 2 41 v2 rfl rfl)
  obtain ⟨A2', c2', e2, hc2, hr2⟩ := K2
  simp only [Value.cells, List.cons.injEq, Value.slice.injEq, and_true] at e2
  obtain ⟨rfl, rfl, rfl⟩ := e2
  clear hA0 hval0
  obtain ⟨k, h⟩ := Pure.PartyChain a0 a1 a2 ok0_ ok1_ ok2_
  refine (insolvencylaw8_PartyChain.calls k a0 a1 _ _ a2 true W hr2 hc2 h).mono fun e W' ⟨he, bel⟩ => ?_
  subst he
  exact ⟨_, rfl, _, _, _, [], _, [], hW', trodAll_mk1 (shut_bool Tryd.underlying4 _), (trodAll_cons_mk (Below.trod laidOut (by kernel_rfl) (of_decide_eq_true (by kernel_rfl)) h0 bel lt0) (trodAll_cons_mk (Below.trod laidOut (by kernel_rfl) (of_decide_eq_true (by kernel_rfl)) h1 bel lt1) (trodAll_cons_mk (Below.trod laidOut (by kernel_rfl) (of_decide_eq_true (by kernel_rfl)) h2 bel lt2) trodAll_mk0))), rfl, bel.frame _, fun h => by cases h⟩
theorem over : Rows.partyChainRow.holds Tryd.pinned (OpenSpec.ofChange Rows.partyChainSpec) :=
  OpenClaim.holds_of_wide 7 Tryd.f7 rfl rfl rfl rfl rfl rfl rfl ⟨rfl, rfl, rfl, rfl, rfl⟩ rfl rfl rfl rfl rfl (by kernel_rfl) Tryd.func7 (by kernel_rfl)
    (of_decide_eq_true (by kernel_rfl)) (by unfold Func.isWrapper; first | (rw [if_pos (by decide +kernel)]; kernel_rfl) | (rw [if_neg (by decide +kernel)]; exact ⟨rfl, rfl⟩))
    (fun os started H enc _ => lifted os started H enc)
theorem plain (f : FuncId) (fn : Func) (hf : Tryd.pinned.checked.prog.funcNamed "insolvency/insolvencylaw8.PartyChain" = some f) (hfn : Tryd.pinned.checked.prog.funcs[f]? = some fn) :
    false = Tryd.pinned.checked.prog.looks [] ∧ ∀ (j : Nat) t, fn.params[j]? = some t → Tryd.pinned.checked.prog.wantsStandIn t = false := by
  obtain rfl : f = 7 := Option.some.inj ((show Tryd.prog.funcNamed "insolvency/insolvencylaw8.PartyChain" = some 7 by kernel_rfl).symm.trans hf) |>.symm
  obtain rfl : fn = Tryd.f7 := (Option.some.inj (Tryd.func7.symm.trans hfn)).symm
  refine ⟨by kernel_rfl, fun j t ht => ?_⟩
  rw [Tryd.params7] at ht
  have hm : t ∈ [5, 40, 41] := by simpa using Array.mem_of_getElem? ht
  have hall : ([5, 40, 41].all fun u => !Tryd.prog.wantsStandIn u) = true := by kernel_rfl
  exact (show Tryd.prog.wantsStandIn t = false by simpa using List.all_eq_true.1 hall t hm)
end Go.Proofs.YtjeamaahhpbbkaaDoor.TPartyChain
namespace Go.Proofs.YtjeamaahhpbbkaaDoor
/-- For every input the law PartyChain returns true, and each argument reads as it read before; the listed variables start as the program's text lays them. -/
theorem partyChain_holds : Rows.PartyChainCardSaid :=
  Claim7.holds_tied_plain_at .later [] _ _ _ _ TPartyChain.over (fun _ h => by cases h) (by kernel_rfl) (fun _ h => by cases h) partyChain_row_tie rfl ⟨rfl, rfl⟩ (by kernel_rfl) rfl TPartyChain.plain (by kernel_rfl)
#print axioms partyChain_holds
end Go.Proofs.YtjeamaahhpbbkaaDoor
