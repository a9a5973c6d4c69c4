-- PRINTED by a session's own changed print
import Derived.Test.YtljenpakncmlkaaPAllx0
import Derived.Test.YtljenpakncmlkaaPAllx6
import Derived.Test.YtljenpakncmlkaaPAllx9
namespace Go.Proofs.Ytljenpakncmlkaa.PAll
open Go.RowKit Go.Proofs.YtljenpakncmlkaaW.PrintWords Go.Proofs.YtljenpakncmlkaaW.PrintLast
set_option linter.unusedVariables false
set_option linter.unusedSimpArgs false

/-! ### insolvencyref25_Deficit: function 16 -/
def insolvencyref25_Deficit.f (k : Nat) (a0_0 : Int) (a0_1 : Int) (a0_2 : Int) (a0_3 : Int) (a0_4 : Int) (a0_5 : Int) : Option (Int) := if a0_1 = 3 then ((insolvencyref1_Int.f k 10).bind fun bt361 => ((insolvencyref1_Int.f k a0_4).bind fun bt364 => ((insolvencyref1_Times.f k bt361.1 bt361.2.1 bt361.2.2 bt364.1 bt364.2.1 bt364.2.2).bind fun bt367 => ((insolvencyref1_Int.f k 9).bind fun bt371 => ((insolvencyref1_Int.f k a0_5).bind fun bt374 => ((insolvencyref1_Times.f k bt371.1 bt371.2.1 bt371.2.2 bt374.1 bt374.2.1 bt374.2.2).bind fun bt377 => ((insolvencyref1_Less.f k bt367.1 bt367.2.1 bt367.2.2 bt377.1 bt377.2.1 bt377.2.2).bind fun t381 => (if t381 = true then (some (wrap64 (a0_5 - a0_4))) else (some 0))))))))) else (some 0)
theorem insolvencyref25_Deficit.mono : ∀ a0 a1 a2 a3 a4 a5 k, LeO (insolvencyref25_Deficit.f k a0 a1 a2 a3 a4 a5) (insolvencyref25_Deficit.f (k + 1) a0 a1 a2 a3 a4 a5) := by
  intro a0 a1 a2 a3 a4 a5 k
  unfold insolvencyref25_Deficit.f
  repeat' first
      | (with_reducible exact insolvencyref1_Int.mono _ _)
      | (with_reducible exact insolvencyref1_Less.mono _ _ _ _ _ _ _)
      | (with_reducible exact insolvencyref1_Times.mono _ _ _ _ _ _ _)
      | (with_reducible exact LeO.refl _)
      | (with_reducible exact LeO.none _)
      | (with_reducible refine LeO.ite ?_ ?_)
      | (with_reducible refine LeO.bind ?_ (fun _ => ?_))
      | exact insolvencyref1_Int.mono _ _
      | exact insolvencyref1_Less.mono _ _ _ _ _ _ _
      | exact insolvencyref1_Times.mono _ _ _ _ _ _ _
      | exact LeO.none _
      | refine LeO.ite ?_ ?_
      | refine LeO.bind ?_ (fun _ => ?_)
set_option maxHeartbeats 8000000 in
set_option maxRecDepth 100000 in
theorem insolvencyref25_Deficit.calls (k : Nat) (a0_0 : Int) (a0_1 : Int) (a0_2 : Int) (a0_3 : Int) (a0_4 : Int) (a0_5 : Int) (r : Int) (w : World) (h : insolvencyref25_Deficit.f k a0_0 a0_1 a0_2 a0_3 a0_4 a0_5 = some r) :
    Calls Try.prog 16 #[.agg #[.int .i64 a0_0, .int .i64 a0_1, .int .i64 a0_2, .int .i64 a0_3, .int .i64 a0_4, .int .i64 a0_5]] w fun e w' => e = .returned (.int .i64 r) ∧ Below w.heap.size w w' := by
  have hu36 := Try.underlying36
  have hu54 := Try.underlying54
  have HB := Aside0.mk (Below.refl w.heap.size w)
  have H : (if a0_1 = 3 then ((insolvencyref1_Int.f k 10).bind fun bt361 => ((insolvencyref1_Int.f k a0_4).bind fun bt364 => ((insolvencyref1_Times.f k bt361.1 bt361.2.1 bt361.2.2 bt364.1 bt364.2.1 bt364.2.2).bind fun bt367 => ((insolvencyref1_Int.f k 9).bind fun bt371 => ((insolvencyref1_Int.f k a0_5).bind fun bt374 => ((insolvencyref1_Times.f k bt371.1 bt371.2.1 bt371.2.2 bt374.1 bt374.2.1 bt374.2.2).bind fun bt377 => ((insolvencyref1_Less.f k bt367.1 bt367.2.1 bt367.2.2 bt377.1 bt377.2.1 bt377.2.2).bind fun t381 => (if t381 = true then (some (wrap64 (a0_5 - a0_4))) else (some 0))))))))) else (some 0)) = some r := h
  clear h
  by_cases c2 : a0_1 = 3
  · rw [if_pos c2] at H
    have c2b0 : (a0_1 == 3) = true := beq_iff_eq.mpr c2
    have c2b1 : (a0_1 != 3) = false := bne_eq_false_iff_eq.mpr c2
    clear c2
    replace H := Option.bind_eq_some_iff.mp H
    obtain ⟨⟨t361, t362, t363⟩, A30, H⟩ := H
    replace H : ((insolvencyref1_Int.f k a0_4).bind fun bt364 => ((insolvencyref1_Times.f k t361 t362 t363 bt364.1 bt364.2.1 bt364.2.2).bind fun bt367 => ((insolvencyref1_Int.f k 9).bind fun bt371 => ((insolvencyref1_Int.f k a0_5).bind fun bt374 => ((insolvencyref1_Times.f k bt371.1 bt371.2.1 bt371.2.2 bt374.1 bt374.2.1 bt374.2.2).bind fun bt377 => ((insolvencyref1_Less.f k bt367.1 bt367.2.1 bt367.2.2 bt377.1 bt377.2.1 bt377.2.2).bind fun t381 => (if t381 = true then (some (wrap64 (a0_5 - a0_4))) else (some 0)))))))) = some r := H
    have A3 := Aside0.mk A30
    clear A30
    replace H := Option.bind_eq_some_iff.mp H
    obtain ⟨⟨t364, t365, t366⟩, A40, H⟩ := H
    replace H : ((insolvencyref1_Times.f k t361 t362 t363 t364 t365 t366).bind fun bt367 => ((insolvencyref1_Int.f k 9).bind fun bt371 => ((insolvencyref1_Int.f k a0_5).bind fun bt374 => ((insolvencyref1_Times.f k bt371.1 bt371.2.1 bt371.2.2 bt374.1 bt374.2.1 bt374.2.2).bind fun bt377 => ((insolvencyref1_Less.f k bt367.1 bt367.2.1 bt367.2.2 bt377.1 bt377.2.1 bt377.2.2).bind fun t381 => (if t381 = true then (some (wrap64 (a0_5 - a0_4))) else (some 0))))))) = some r := H
    have A4 := Aside0.mk A40
    clear A40
    replace H := Option.bind_eq_some_iff.mp H
    obtain ⟨⟨t367, t368, t369⟩, A50, H⟩ := H
    replace H : ((insolvencyref1_Int.f k 9).bind fun bt371 => ((insolvencyref1_Int.f k a0_5).bind fun bt374 => ((insolvencyref1_Times.f k bt371.1 bt371.2.1 bt371.2.2 bt374.1 bt374.2.1 bt374.2.2).bind fun bt377 => ((insolvencyref1_Less.f k t367 t368 t369 bt377.1 bt377.2.1 bt377.2.2).bind fun t381 => (if t381 = true then (some (wrap64 (a0_5 - a0_4))) else (some 0)))))) = some r := H
    have A5 := Aside0.mk A50
    clear A50
    replace H := Option.bind_eq_some_iff.mp H
    obtain ⟨⟨t371, t372, t373⟩, A60, H⟩ := H
    replace H : ((insolvencyref1_Int.f k a0_5).bind fun bt374 => ((insolvencyref1_Times.f k t371 t372 t373 bt374.1 bt374.2.1 bt374.2.2).bind fun bt377 => ((insolvencyref1_Less.f k t367 t368 t369 bt377.1 bt377.2.1 bt377.2.2).bind fun t381 => (if t381 = true then (some (wrap64 (a0_5 - a0_4))) else (some 0))))) = some r := H
    have A6 := Aside0.mk A60
    clear A60
    replace H := Option.bind_eq_some_iff.mp H
    obtain ⟨⟨t374, t375, t376⟩, A70, H⟩ := H
    replace H : ((insolvencyref1_Times.f k t371 t372 t373 t374 t375 t376).bind fun bt377 => ((insolvencyref1_Less.f k t367 t368 t369 bt377.1 bt377.2.1 bt377.2.2).bind fun t381 => (if t381 = true then (some (wrap64 (a0_5 - a0_4))) else (some 0)))) = some r := H
    have A7 := Aside0.mk A70
    clear A70
    replace H := Option.bind_eq_some_iff.mp H
    obtain ⟨⟨t377, t378, t379⟩, A80, H⟩ := H
    replace H : ((insolvencyref1_Less.f k t367 t368 t369 t377 t378 t379).bind fun t381 => (if t381 = true then (some (wrap64 (a0_5 - a0_4))) else (some 0))) = some r := H
    have A8 := Aside0.mk A80
    clear A80
    replace H := Option.bind_eq_some_iff.mp H
    obtain ⟨t381, A90, H⟩ := H
    replace H : (if t381 = true then (some (wrap64 (a0_5 - a0_4))) else (some 0)) = some r := H
    have A9 := Aside0.mk A90
    clear A90
    by_cases c10 : t381 = true
    · subst c10
      have H1 : (some (wrap64 (a0_5 - a0_4))) = some r := by rw [if_pos rfl] at H; exact H
      clear H
      have H := H1
      clear H1
      obtain rfl := Option.some.inj H
      go_enter Try.func16, Try.ntmps16
      try go_wp2_with (first | ((with_reducible refine gate_dst (N := 1) rfl ?_); refine box_event ?hg (N := 1) ?hd (cs := #[.int .i64 a0_0, .int .i64 a0_1, .int .i64 a0_2, .int .i64 a0_3, .int .i64 a0_4, .int .i64 a0_5]) (t := 36) ?hr ?_; (case hd => rfl); (case hg => rfl); (case hr => first | (go_simp; done) | (go_simp; rfl)); intro gb360 hg w11 hbox hb; have n0_ := Aside0.mk (below_step (by repeat (first | (with_reducible first | exact HB.out | apply below_alloc | apply pw_below_drewN | apply below_drew1) | exact HB.out)) hb); have n1_ := Aside0.mk (hbox); have n2_ := Aside0.mk ((by rw [hg]; exact (below_size (by repeat (first | (with_reducible first | exact HB.out | apply below_alloc | apply pw_below_drewN | apply below_drew1) | exact HB.out))) : w.heap.size ≤ gb360)); have n3_ := Aside0.mk ((by rw [hg]; exact (below_size (by repeat (first | (with_reducible first | exact HB.out | apply below_alloc | apply pw_below_drewN | apply below_drew1) | exact HB.out))) : w.heap.size ≤ gb360)); clear HB; have HB := n0_; have BK360 := n1_; have GW360 := n2_; have GE360 := n3_; clear n0_ n1_ n2_ n3_; clear hb hbox hg; have hcz12_0 : w11.cell? ⟨gb360, 0, none⟩ = some (.int .i64 a0_0) := (blk_cell BK360.out 0).trans rfl; have hcz12_1 : w11.cell? ⟨gb360, 1, none⟩ = some (.int .i64 a0_1) := (blk_cell BK360.out 1).trans rfl; have hcz12_2 : w11.cell? ⟨gb360, 2, none⟩ = some (.int .i64 a0_2) := (blk_cell BK360.out 2).trans rfl; have hcz12_3 : w11.cell? ⟨gb360, 3, none⟩ = some (.int .i64 a0_3) := (blk_cell BK360.out 3).trans rfl; have hcz12_4 : w11.cell? ⟨gb360, 4, none⟩ = some (.int .i64 a0_4) := (blk_cell BK360.out 4).trans rfl; have hcz12_5 : w11.cell? ⟨gb360, 5, none⟩ = some (.int .i64 a0_5) := (blk_cell BK360.out 5).trans rfl; have hfz12_0 := blk_frozen BK360.out 0; have hfz12_1 := blk_frozen BK360.out 1; have hfz12_2 := blk_frozen BK360.out 2; have hfz12_3 := blk_frozen BK360.out 3; have hfz12_4 := blk_frozen BK360.out 4; have hfz12_5 := blk_frozen BK360.out 5))
      have n0_ := Aside0.mk (blk_drew BK360.out)
      have n1_ := Aside0.mk (below_drew1 HB.out)
      clear BK360
      clear HB
      have BK360 := n0_
      have HB := n1_
      clear n0_ n1_
      refine start_ (n := 7) (S := fun w' => w'.cell? ⟨gb360, 0, none⟩ = some (.int .i64 a0_0) ∧ w'.cell? ⟨gb360, 1, none⟩ = some (.int .i64 a0_1) ∧ w'.cell? ⟨gb360, 2, none⟩ = some (.int .i64 a0_2) ∧ w'.cell? ⟨gb360, 3, none⟩ = some (.int .i64 a0_3) ∧ w'.cell? ⟨gb360, 4, none⟩ = some (.int .i64 a0_4) ∧ w'.cell? ⟨gb360, 5, none⟩ = some (.int .i64 a0_5)) (ds := []) #[false, false, false, false, false, false, false] (by kernel_rfl) rfl rfl ⟨(blk_cell BK360.out 0).trans rfl, (blk_cell BK360.out 1).trans rfl, (blk_cell BK360.out 2).trans rfl, (blk_cell BK360.out 3).trans rfl, (blk_cell BK360.out 4).trans rfl, (blk_cell BK360.out 5).trans rfl⟩ (fun hHeld => ?_)
      generalize w11.drew = w13 at BK360 HB hHeld ⊢
      refine pure_ (i := 1) (N := some 9) (v := ?_) (a' := ?_) #[false, true, false, false, false, false, false] rfl rfl (by kernel_rfl) (fun _ _ _ h => h) (Or.inl ⟨by rfl, ?_⟩) ?_ ?_
      rotate_left
      · intro w'
        go_simp
        with_reducible rfl
      rotate_left
      · simp only [Act.put, List.setIfInBounds_toArray, List.set_cons_zero, List.set_cons_succ, i64_w, i32_w]
        rfl
      refine take_ (i := 2) (N := some 10) (v := ?_) (a' := ?_) #[false, true, true, false, false, false, false] rfl rfl (by kernel_rfl) (fun _ _ _ h => h) (Or.inl ⟨by rfl, ?_⟩) hHeld ?_ ?_
      rotate_left
      · rintro w' ⟨s0, s1, s2, s3, s4, s5⟩
        go_simp
        with_reducible rfl
      rotate_left
      · simp only [Act.put, List.setIfInBounds_toArray, List.set_cons_zero, List.set_cons_succ, i64_w, i32_w]
        rfl
      refine join_ (σ := Nat) 1 #[true, true, true, true, true, true, false] (fun s_ => [(8, .agg #[.bool t361, .string t362, .string t363]), (11, .agg #[.bool t364, .string t365, .string t366]), (12, .agg #[.bool t367, .string t368, .string t369]), (3, .pointer (some ⟨s_, 0, none⟩))]) (fun s_ w' => (w'.cell? ⟨gb360, 0, none⟩ = some (.int .i64 a0_0) ∧ w'.cell? ⟨gb360, 1, none⟩ = some (.int .i64 a0_1) ∧ w'.cell? ⟨gb360, 2, none⟩ = some (.int .i64 a0_2) ∧ w'.cell? ⟨gb360, 3, none⟩ = some (.int .i64 a0_3) ∧ w'.cell? ⟨gb360, 4, none⟩ = some (.int .i64 a0_4) ∧ w'.cell? ⟨gb360, 5, none⟩ = some (.int .i64 a0_5)) ∧ (w'.heap[gb360]? = some (.cells #[.int .i64 a0_0, .int .i64 a0_1, .int .i64 a0_2, .int .i64 a0_3, .int .i64 a0_4, .int .i64 a0_5] 36 (0, 0))) ∧ (w'.heap[s_]? = some (.cells #[.bool false, .string (⟨#[]⟩ : ByteArray), .string (⟨#[]⟩ : ByteArray)] 54 (0, 0))) ∧ (w.heap.size ≤ s_) ∧ (w.heap.size ≤ s_) ∧ (gb360 ≠ s_) ∧ (s_ ≠ gb360) ∧ (Below w.heap.size w w')) ?_ ?_
      rotate_left
      · intro hCont
        refine two_ (i := 0) (j := 5) (Ni := some 8) (Nj := some 3) #[true, true, true, false, false, false, false] #[false, true, true, false, false, true, false] rfl rfl rfl rfl (by kernel_rfl) (by decide) (by decide) (fun K hK => ?_) (fun K hK => ?_)
        · skip
          refine goes_ Try.func24 (by kernel_rfl) rfl #[.int .i64 10] (by rfl) rfl rfl (by (try simp only [List.map_toArray, List.map_cons, List.map_nil]); first | done | rfl | (simp only [List.length_drop, List.length_take]; rfl)) ?_
          with_reducible refine (insolvencyref1_Int.calls k 10 t361 t362 t363 _ A3.out).mono ?_
          rintro e w14 ⟨rfl, hb⟩
          refine ⟨_, rfl, ?_⟩
          have n0_ := Aside0.mk (blk_below (g := gb360) (o := .cells #[.int .i64 a0_0, .int .i64 a0_1, .int .i64 a0_2, .int .i64 a0_3, .int .i64 a0_4, .int .i64 a0_5] 36 (0, 0)) (by (with_reducible repeat (first | refine blk_drewN ?_ _ | refine blk_drew ?_ | refine blk_alloc ?_ _)); exact BK360.out) hb)
          have n1_ := Aside0.mk (below_step (by repeat (first | (with_reducible first | exact HB.out | apply below_alloc | apply pw_below_drewN | apply below_drew1 | refine below_set ?_ GE360.out) | exact HB.out)) hb)
          clear BK360
          clear HB
          have BK360 := n0_
          have HB := n1_
          clear n0_ n1_
          (try clear hb)
          (try clear hb2)
          (try clear hk)
          (try clear hi)
          refine hK.out _ _ ⟨(blk_cell BK360.out 0).trans rfl, (blk_cell BK360.out 1).trans rfl, (blk_cell BK360.out 2).trans rfl, (blk_cell BK360.out 3).trans rfl, (blk_cell BK360.out 4).trans rfl, (blk_cell BK360.out 5).trans rfl⟩ (fun hHeld => ?_)
          clear hK K
          refine norm_ (a' := ?_) ?_ ?_
          rotate_left
          · show Act.put _ (some 8) _ = _
            simp only [Act.put, List.setIfInBounds_toArray, List.set_cons_zero, List.set_cons_succ, i64_w, i32_w]
            rfl
          refine two_ (i := 3) (j := 5) (Ni := some 11) (Nj := some 3) #[true, true, true, true, false, false, false] #[true, true, true, false, false, true, false] rfl rfl rfl rfl (by kernel_rfl) (by decide) (by decide) (fun K hK => ?_) (fun K hK => ?_)
          · skip
            refine goes_ Try.func24 (by kernel_rfl) rfl #[.int .i64 a0_4] (by rfl) rfl rfl (by (try simp only [List.map_toArray, List.map_cons, List.map_nil]); first | done | rfl | (simp only [List.length_drop, List.length_take]; rfl)) ?_
            with_reducible refine (insolvencyref1_Int.calls k a0_4 t364 t365 t366 _ A4.out).mono ?_
            rintro e w15 ⟨rfl, hb⟩
            refine ⟨_, rfl, ?_⟩
            have n0_ := Aside0.mk (blk_below (g := gb360) (o := .cells #[.int .i64 a0_0, .int .i64 a0_1, .int .i64 a0_2, .int .i64 a0_3, .int .i64 a0_4, .int .i64 a0_5] 36 (0, 0)) (by (with_reducible repeat (first | refine blk_drewN ?_ _ | refine blk_drew ?_ | refine blk_alloc ?_ _)); exact BK360.out) hb)
            have n1_ := Aside0.mk (below_step (by repeat (first | (with_reducible first | exact HB.out | apply below_alloc | apply pw_below_drewN | apply below_drew1 | refine below_set ?_ GE360.out) | exact HB.out)) hb)
            clear BK360
            clear HB
            have BK360 := n0_
            have HB := n1_
            clear n0_ n1_
            (try clear hb)
            (try clear hb2)
            (try clear hk)
            (try clear hi)
            refine hK.out _ _ ⟨(blk_cell BK360.out 0).trans rfl, (blk_cell BK360.out 1).trans rfl, (blk_cell BK360.out 2).trans rfl, (blk_cell BK360.out 3).trans rfl, (blk_cell BK360.out 4).trans rfl, (blk_cell BK360.out 5).trans rfl⟩ (fun hHeld => ?_)
            clear hK K
            refine norm_ (a' := ?_) ?_ ?_
            rotate_left
            · show Act.put _ (some 11) _ = _
              simp only [Act.put, List.setIfInBounds_toArray, List.set_cons_zero, List.set_cons_succ, i64_w, i32_w]
              rfl
            refine two_ (i := 4) (j := 5) (Ni := some 12) (Nj := some 3) #[true, true, true, true, true, false, false] #[true, true, true, true, false, true, false] rfl rfl rfl rfl (by kernel_rfl) (by decide) (by decide) (fun K hK => ?_) (fun K hK => ?_)
            · skip
              refine goes_ Try.func23 (by kernel_rfl) rfl #[.agg #[.bool t361, .string t362, .string t363], .agg #[.bool t364, .string t365, .string t366]] (by rfl) rfl rfl (by (try simp only [List.map_toArray, List.map_cons, List.map_nil]); first | done | rfl | (simp only [List.length_drop, List.length_take]; rfl)) ?_
              with_reducible refine (insolvencyref1_Times.calls k t361 t362 t363 t364 t365 t366 t367 t368 t369 _ A5.out).mono ?_
              rintro e w16 ⟨rfl, hb⟩
              refine ⟨_, rfl, ?_⟩
              have n0_ := Aside0.mk (blk_below (g := gb360) (o := .cells #[.int .i64 a0_0, .int .i64 a0_1, .int .i64 a0_2, .int .i64 a0_3, .int .i64 a0_4, .int .i64 a0_5] 36 (0, 0)) (by (with_reducible repeat (first | refine blk_drewN ?_ _ | refine blk_drew ?_ | refine blk_alloc ?_ _)); exact BK360.out) hb)
              have n1_ := Aside0.mk (below_step (by repeat (first | (with_reducible first | exact HB.out | apply below_alloc | apply pw_below_drewN | apply below_drew1 | refine below_set ?_ GE360.out) | exact HB.out)) hb)
              clear BK360
              clear HB
              have BK360 := n0_
              have HB := n1_
              clear n0_ n1_
              (try clear hb)
              (try clear hb2)
              (try clear hk)
              (try clear hi)
              refine hK.out _ _ ⟨(blk_cell BK360.out 0).trans rfl, (blk_cell BK360.out 1).trans rfl, (blk_cell BK360.out 2).trans rfl, (blk_cell BK360.out 3).trans rfl, (blk_cell BK360.out 4).trans rfl, (blk_cell BK360.out 5).trans rfl⟩ (fun hHeld => ?_)
              clear hK K
              refine norm_ (a' := ?_) ?_ ?_
              rotate_left
              · show Act.put _ (some 12) _ = _
                simp only [Act.put, List.setIfInBounds_toArray, List.set_cons_zero, List.set_cons_succ, i64_w, i32_w]
                rfl
              refine one_ (i := 5) (N := some 3) #[true, true, true, true, true, true, false] rfl rfl (by kernel_rfl) (by decide) (fun K hK => ?_)
              refine box_step ?hg (N := 3) ?hd (cs := #[.bool false, .string (⟨#[]⟩ : ByteArray), .string (⟨#[]⟩ : ByteArray)]) (t := 54) ?hr ?_; (case hd => rfl); (case hg => rfl); (case hr => first | (go_simp; done) | (go_simp; rfl))
              intro gb370 hg w17 hbox hb
              have n0_ := Aside0.mk (blk_below (g := gb360) (o := .cells #[.int .i64 a0_0, .int .i64 a0_1, .int .i64 a0_2, .int .i64 a0_3, .int .i64 a0_4, .int .i64 a0_5] 36 (0, 0)) (by (with_reducible repeat (first | refine blk_drewN ?_ _ | refine blk_drew ?_ | refine blk_alloc ?_ _)); exact BK360.out) hb)
              have n1_ := Aside0.mk (below_step (by repeat (first | (with_reducible first | exact HB.out | apply below_alloc | apply pw_below_drewN | apply below_drew1 | refine below_set ?_ GE360.out) | exact HB.out)) hb)
              have n2_ := Aside0.mk (hbox)
              have n3_ := Aside0.mk ((by rw [hg]; exact (below_size (by repeat (first | (with_reducible first | exact HB.out | apply below_alloc | apply pw_below_drewN | apply below_drew1 | refine below_set ?_ GE360.out) | exact HB.out))) : w.heap.size ≤ gb370))
              have n4_ := Aside0.mk ((by rw [hg]; exact (below_size (by repeat (first | (with_reducible first | exact HB.out | apply below_alloc | apply pw_below_drewN | apply below_drew1 | refine below_set ?_ GE360.out) | exact HB.out))) : w.heap.size ≤ gb370))
              have n5_ := Aside0.mk ((by rw [hg]; exact Nat.ne_of_lt (blk_lt (g := gb360) (o := .cells #[.int .i64 a0_0, .int .i64 a0_1, .int .i64 a0_2, .int .i64 a0_3, .int .i64 a0_4, .int .i64 a0_5] 36 (0, 0)) (by (with_reducible repeat (first | refine blk_drewN ?_ _ | refine blk_drew ?_ | refine blk_alloc ?_ _)); exact BK360.out)) : gb360 ≠ gb370))
              have n6_ := Aside0.mk ((by rw [hg]; exact Nat.ne_of_gt (blk_lt (g := gb360) (o := .cells #[.int .i64 a0_0, .int .i64 a0_1, .int .i64 a0_2, .int .i64 a0_3, .int .i64 a0_4, .int .i64 a0_5] 36 (0, 0)) (by (with_reducible repeat (first | refine blk_drewN ?_ _ | refine blk_drew ?_ | refine blk_alloc ?_ _)); exact BK360.out)) : gb370 ≠ gb360))
              clear BK360
              clear HB
              have BK360 := n0_
              have HB := n1_
              have BK370 := n2_
              have GW370 := n3_
              have GE370 := n4_
              have NB360_370 := n5_
              have NB370_360 := n6_
              clear n0_ n1_ n2_ n3_ n4_ n5_ n6_
              clear hb hbox hg
              refine hK.out _ _ ⟨(blk_cell BK360.out 0).trans rfl, (blk_cell BK360.out 1).trans rfl, (blk_cell BK360.out 2).trans rfl, (blk_cell BK360.out 3).trans rfl, (blk_cell BK360.out 4).trans rfl, (blk_cell BK360.out 5).trans rfl⟩ (fun hHeld => ?_)
              clear hK K
              refine norm_ (a' := ?_) ?_ ?_
              rotate_left
              · show Act.put _ (some 3) _ = _
                simp only [Act.put, List.setIfInBounds_toArray, List.set_cons_zero, List.set_cons_succ, i64_w, i32_w]
                rfl
              exact norm_ (by simp only [putAll, Act.put, List.setIfInBounds_toArray, List.set_cons_zero, List.set_cons_succ]) (hCont (gb370) _ ⟨hHeld, (by (with_reducible repeat (first | refine blk_drewN ?_ _ | refine blk_drew ?_ | refine blk_alloc ?_ _)); exact BK360.out), (by (with_reducible repeat (first | refine blk_drewN ?_ _ | refine blk_drew ?_ | refine blk_alloc ?_ _)); exact BK370.out), GW370.out, GE370.out, NB360_370.out, NB370_360.out, (by repeat (first | (with_reducible first | exact HB.out | apply below_alloc | apply pw_below_drewN | apply below_drew1 | refine below_set ?_ GE360.out | refine below_set ?_ GE370.out) | exact HB.out))⟩)
            · skip
              refine box_step ?hg (N := 3) ?hd (cs := #[.bool false, .string (⟨#[]⟩ : ByteArray), .string (⟨#[]⟩ : ByteArray)]) (t := 54) ?hr ?_; (case hd => rfl); (case hg => rfl); (case hr => first | (go_simp; done) | (go_simp; rfl))
              intro gb370 hg w16 hbox hb
              have n0_ := Aside0.mk (blk_below (g := gb360) (o := .cells #[.int .i64 a0_0, .int .i64 a0_1, .int .i64 a0_2, .int .i64 a0_3, .int .i64 a0_4, .int .i64 a0_5] 36 (0, 0)) (by (with_reducible repeat (first | refine blk_drewN ?_ _ | refine blk_drew ?_ | refine blk_alloc ?_ _)); exact BK360.out) hb)
              have n1_ := Aside0.mk (below_step (by repeat (first | (with_reducible first | exact HB.out | apply below_alloc | apply pw_below_drewN | apply below_drew1 | refine below_set ?_ GE360.out) | exact HB.out)) hb)
              have n2_ := Aside0.mk (hbox)
              have n3_ := Aside0.mk ((by rw [hg]; exact (below_size (by repeat (first | (with_reducible first | exact HB.out | apply below_alloc | apply pw_below_drewN | apply below_drew1 | refine below_set ?_ GE360.out) | exact HB.out))) : w.heap.size ≤ gb370))
              have n4_ := Aside0.mk ((by rw [hg]; exact (below_size (by repeat (first | (with_reducible first | exact HB.out | apply below_alloc | apply pw_below_drewN | apply below_drew1 | refine below_set ?_ GE360.out) | exact HB.out))) : w.heap.size ≤ gb370))
              have n5_ := Aside0.mk ((by rw [hg]; exact Nat.ne_of_lt (blk_lt (g := gb360) (o := .cells #[.int .i64 a0_0, .int .i64 a0_1, .int .i64 a0_2, .int .i64 a0_3, .int .i64 a0_4, .int .i64 a0_5] 36 (0, 0)) (by (with_reducible repeat (first | refine blk_drewN ?_ _ | refine blk_drew ?_ | refine blk_alloc ?_ _)); exact BK360.out)) : gb360 ≠ gb370))
              have n6_ := Aside0.mk ((by rw [hg]; exact Nat.ne_of_gt (blk_lt (g := gb360) (o := .cells #[.int .i64 a0_0, .int .i64 a0_1, .int .i64 a0_2, .int .i64 a0_3, .int .i64 a0_4, .int .i64 a0_5] 36 (0, 0)) (by (with_reducible repeat (first | refine blk_drewN ?_ _ | refine blk_drew ?_ | refine blk_alloc ?_ _)); exact BK360.out)) : gb370 ≠ gb360))
              clear BK360
              clear HB
              have BK360 := n0_
              have HB := n1_
              have BK370 := n2_
              have GW370 := n3_
              have GE370 := n4_
              have NB360_370 := n5_
              have NB370_360 := n6_
              clear n0_ n1_ n2_ n3_ n4_ n5_ n6_
              clear hb hbox hg
              refine hK.out _ _ ⟨(blk_cell BK360.out 0).trans rfl, (blk_cell BK360.out 1).trans rfl, (blk_cell BK360.out 2).trans rfl, (blk_cell BK360.out 3).trans rfl, (blk_cell BK360.out 4).trans rfl, (blk_cell BK360.out 5).trans rfl⟩ (fun hHeld => ?_)
              clear hK K
              refine norm_ (a' := ?_) ?_ ?_
              rotate_left
              · show Act.put _ (some 3) _ = _
                simp only [Act.put, List.setIfInBounds_toArray, List.set_cons_zero, List.set_cons_succ, i64_w, i32_w]
                rfl
              refine one_ (i := 4) (N := some 12) #[true, true, true, true, true, true, false] rfl rfl (by kernel_rfl) (by decide) (fun K hK => ?_)
              refine goes_ Try.func23 (by kernel_rfl) rfl #[.agg #[.bool t361, .string t362, .string t363], .agg #[.bool t364, .string t365, .string t366]] (by rfl) rfl rfl (by (try simp only [List.map_toArray, List.map_cons, List.map_nil]); first | done | rfl | (simp only [List.length_drop, List.length_take]; rfl)) ?_
              with_reducible refine (insolvencyref1_Times.calls k t361 t362 t363 t364 t365 t366 t367 t368 t369 _ A5.out).mono ?_
              rintro e w17 ⟨rfl, hb⟩
              refine ⟨_, rfl, ?_⟩
              have n0_ := Aside0.mk (blk_below (g := gb360) (o := .cells #[.int .i64 a0_0, .int .i64 a0_1, .int .i64 a0_2, .int .i64 a0_3, .int .i64 a0_4, .int .i64 a0_5] 36 (0, 0)) (by (with_reducible repeat (first | refine blk_drewN ?_ _ | refine blk_drew ?_ | refine blk_alloc ?_ _)); exact BK360.out) hb)
              have n1_ := Aside0.mk (blk_below (g := gb370) (o := .cells #[.bool false, .string (⟨#[]⟩ : ByteArray), .string (⟨#[]⟩ : ByteArray)] 54 (0, 0)) (by (with_reducible repeat (first | refine blk_drewN ?_ _ | refine blk_drew ?_ | refine blk_alloc ?_ _)); exact BK370.out) hb)
              have n2_ := Aside0.mk (below_step (by repeat (first | (with_reducible first | exact HB.out | apply below_alloc | apply pw_below_drewN | apply below_drew1 | refine below_set ?_ GE360.out | refine below_set ?_ GE370.out) | exact HB.out)) hb)
              clear BK360
              clear BK370
              clear HB
              have BK360 := n0_
              have BK370 := n1_
              have HB := n2_
              clear n0_ n1_ n2_
              (try clear hb)
              (try clear hb2)
              (try clear hk)
              (try clear hi)
              refine hK.out _ _ ⟨(blk_cell BK360.out 0).trans rfl, (blk_cell BK360.out 1).trans rfl, (blk_cell BK360.out 2).trans rfl, (blk_cell BK360.out 3).trans rfl, (blk_cell BK360.out 4).trans rfl, (blk_cell BK360.out 5).trans rfl⟩ (fun hHeld => ?_)
              clear hK K
              refine norm_ (a' := ?_) ?_ ?_
              rotate_left
              · show Act.put _ (some 12) _ = _
                simp only [Act.put, List.setIfInBounds_toArray, List.set_cons_zero, List.set_cons_succ, i64_w, i32_w]
                rfl
              exact norm_ (by simp only [putAll, Act.put, List.setIfInBounds_toArray, List.set_cons_zero, List.set_cons_succ]) (hCont (gb370) _ ⟨hHeld, (by (with_reducible repeat (first | refine blk_drewN ?_ _ | refine blk_drew ?_ | refine blk_alloc ?_ _)); exact BK360.out), (by (with_reducible repeat (first | refine blk_drewN ?_ _ | refine blk_drew ?_ | refine blk_alloc ?_ _)); exact BK370.out), GW370.out, GE370.out, NB360_370.out, NB370_360.out, (by repeat (first | (with_reducible first | exact HB.out | apply below_alloc | apply pw_below_drewN | apply below_drew1 | refine below_set ?_ GE360.out | refine below_set ?_ GE370.out) | exact HB.out))⟩)
          · skip
            refine box_step ?hg (N := 3) ?hd (cs := #[.bool false, .string (⟨#[]⟩ : ByteArray), .string (⟨#[]⟩ : ByteArray)]) (t := 54) ?hr ?_; (case hd => rfl); (case hg => rfl); (case hr => first | (go_simp; done) | (go_simp; rfl))
            intro gb370 hg w15 hbox hb
            have n0_ := Aside0.mk (blk_below (g := gb360) (o := .cells #[.int .i64 a0_0, .int .i64 a0_1, .int .i64 a0_2, .int .i64 a0_3, .int .i64 a0_4, .int .i64 a0_5] 36 (0, 0)) (by (with_reducible repeat (first | refine blk_drewN ?_ _ | refine blk_drew ?_ | refine blk_alloc ?_ _)); exact BK360.out) hb)
            have n1_ := Aside0.mk (below_step (by repeat (first | (with_reducible first | exact HB.out | apply below_alloc | apply pw_below_drewN | apply below_drew1 | refine below_set ?_ GE360.out) | exact HB.out)) hb)
            have n2_ := Aside0.mk (hbox)
            have n3_ := Aside0.mk ((by rw [hg]; exact (below_size (by repeat (first | (with_reducible first | exact HB.out | apply below_alloc | apply pw_below_drewN | apply below_drew1 | refine below_set ?_ GE360.out) | exact HB.out))) : w.heap.size ≤ gb370))
            have n4_ := Aside0.mk ((by rw [hg]; exact (below_size (by repeat (first | (with_reducible first | exact HB.out | apply below_alloc | apply pw_below_drewN | apply below_drew1 | refine below_set ?_ GE360.out) | exact HB.out))) : w.heap.size ≤ gb370))
            have n5_ := Aside0.mk ((by rw [hg]; exact Nat.ne_of_lt (blk_lt (g := gb360) (o := .cells #[.int .i64 a0_0, .int .i64 a0_1, .int .i64 a0_2, .int .i64 a0_3, .int .i64 a0_4, .int .i64 a0_5] 36 (0, 0)) (by (with_reducible repeat (first | refine blk_drewN ?_ _ | refine blk_drew ?_ | refine blk_alloc ?_ _)); exact BK360.out)) : gb360 ≠ gb370))
            have n6_ := Aside0.mk ((by rw [hg]; exact Nat.ne_of_gt (blk_lt (g := gb360) (o := .cells #[.int .i64 a0_0, .int .i64 a0_1, .int .i64 a0_2, .int .i64 a0_3, .int .i64 a0_4, .int .i64 a0_5] 36 (0, 0)) (by (with_reducible repeat (first | refine blk_drewN ?_ _ | refine blk_drew ?_ | refine blk_alloc ?_ _)); exact BK360.out)) : gb370 ≠ gb360))
            clear BK360
            clear HB
            have BK360 := n0_
            have HB := n1_
            have BK370 := n2_
            have GW370 := n3_
            have GE370 := n4_
            have NB360_370 := n5_
            have NB370_360 := n6_
            clear n0_ n1_ n2_ n3_ n4_ n5_ n6_
            clear hb hbox hg
            refine hK.out _ _ ⟨(blk_cell BK360.out 0).trans rfl, (blk_cell BK360.out 1).trans rfl, (blk_cell BK360.out 2).trans rfl, (blk_cell BK360.out 3).trans rfl, (blk_cell BK360.out 4).trans rfl, (blk_cell BK360.out 5).trans rfl⟩ (fun hHeld => ?_)
            clear hK K
            refine norm_ (a' := ?_) ?_ ?_
            rotate_left
            · show Act.put _ (some 3) _ = _
              simp only [Act.put, List.setIfInBounds_toArray, List.set_cons_zero, List.set_cons_succ, i64_w, i32_w]
              rfl
            refine one_ (i := 3) (N := some 11) #[true, true, true, true, false, true, false] rfl rfl (by kernel_rfl) (by decide) (fun K hK => ?_)
            refine goes_ Try.func24 (by kernel_rfl) rfl #[.int .i64 a0_4] (by rfl) rfl rfl (by (try simp only [List.map_toArray, List.map_cons, List.map_nil]); first | done | rfl | (simp only [List.length_drop, List.length_take]; rfl)) ?_
            with_reducible refine (insolvencyref1_Int.calls k a0_4 t364 t365 t366 _ A4.out).mono ?_
            rintro e w16 ⟨rfl, hb⟩
            refine ⟨_, rfl, ?_⟩
            have n0_ := Aside0.mk (blk_below (g := gb360) (o := .cells #[.int .i64 a0_0, .int .i64 a0_1, .int .i64 a0_2, .int .i64 a0_3, .int .i64 a0_4, .int .i64 a0_5] 36 (0, 0)) (by (with_reducible repeat (first | refine blk_drewN ?_ _ | refine blk_drew ?_ | refine blk_alloc ?_ _)); exact BK360.out) hb)
            have n1_ := Aside0.mk (blk_below (g := gb370) (o := .cells #[.bool false, .string (⟨#[]⟩ : ByteArray), .string (⟨#[]⟩ : ByteArray)] 54 (0, 0)) (by (with_reducible repeat (first | refine blk_drewN ?_ _ | refine blk_drew ?_ | refine blk_alloc ?_ _)); exact BK370.out) hb)
            have n2_ := Aside0.mk (below_step (by repeat (first | (with_reducible first | exact HB.out | apply below_alloc | apply pw_below_drewN | apply below_drew1 | refine below_set ?_ GE360.out | refine below_set ?_ GE370.out) | exact HB.out)) hb)
            clear BK360
            clear BK370
            clear HB
            have BK360 := n0_
            have BK370 := n1_
            have HB := n2_
            clear n0_ n1_ n2_
            (try clear hb)
            (try clear hb2)
            (try clear hk)
            (try clear hi)
            refine hK.out _ _ ⟨(blk_cell BK360.out 0).trans rfl, (blk_cell BK360.out 1).trans rfl, (blk_cell BK360.out 2).trans rfl, (blk_cell BK360.out 3).trans rfl, (blk_cell BK360.out 4).trans rfl, (blk_cell BK360.out 5).trans rfl⟩ (fun hHeld => ?_)
            clear hK K
            refine norm_ (a' := ?_) ?_ ?_
            rotate_left
            · show Act.put _ (some 11) _ = _
              simp only [Act.put, List.setIfInBounds_toArray, List.set_cons_zero, List.set_cons_succ, i64_w, i32_w]
              rfl
            refine one_ (i := 4) (N := some 12) #[true, true, true, true, true, true, false] rfl rfl (by kernel_rfl) (by decide) (fun K hK => ?_)
            refine goes_ Try.func23 (by kernel_rfl) rfl #[.agg #[.bool t361, .string t362, .string t363], .agg #[.bool t364, .string t365, .string t366]] (by rfl) rfl rfl (by (try simp only [List.map_toArray, List.map_cons, List.map_nil]); first | done | rfl | (simp only [List.length_drop, List.length_take]; rfl)) ?_
            with_reducible refine (insolvencyref1_Times.calls k t361 t362 t363 t364 t365 t366 t367 t368 t369 _ A5.out).mono ?_
            rintro e w17 ⟨rfl, hb⟩
            refine ⟨_, rfl, ?_⟩
            have n0_ := Aside0.mk (blk_below (g := gb360) (o := .cells #[.int .i64 a0_0, .int .i64 a0_1, .int .i64 a0_2, .int .i64 a0_3, .int .i64 a0_4, .int .i64 a0_5] 36 (0, 0)) (by (with_reducible repeat (first | refine blk_drewN ?_ _ | refine blk_drew ?_ | refine blk_alloc ?_ _)); exact BK360.out) hb)
            have n1_ := Aside0.mk (blk_below (g := gb370) (o := .cells #[.bool false, .string (⟨#[]⟩ : ByteArray), .string (⟨#[]⟩ : ByteArray)] 54 (0, 0)) (by (with_reducible repeat (first | refine blk_drewN ?_ _ | refine blk_drew ?_ | refine blk_alloc ?_ _)); exact BK370.out) hb)
            have n2_ := Aside0.mk (below_step (by repeat (first | (with_reducible first | exact HB.out | apply below_alloc | apply pw_below_drewN | apply below_drew1 | refine below_set ?_ GE360.out | refine below_set ?_ GE370.out) | exact HB.out)) hb)
            clear BK360
            clear BK370
            clear HB
            have BK360 := n0_
            have BK370 := n1_
            have HB := n2_
            clear n0_ n1_ n2_
            (try clear hb)
            (try clear hb2)
            (try clear hk)
            (try clear hi)
            refine hK.out _ _ ⟨(blk_cell BK360.out 0).trans rfl, (blk_cell BK360.out 1).trans rfl, (blk_cell BK360.out 2).trans rfl, (blk_cell BK360.out 3).trans rfl, (blk_cell BK360.out 4).trans rfl, (blk_cell BK360.out 5).trans rfl⟩ (fun hHeld => ?_)
            clear hK K
            refine norm_ (a' := ?_) ?_ ?_
            rotate_left
            · show Act.put _ (some 12) _ = _
              simp only [Act.put, List.setIfInBounds_toArray, List.set_cons_zero, List.set_cons_succ, i64_w, i32_w]
              rfl
            exact norm_ (by simp only [putAll, Act.put, List.setIfInBounds_toArray, List.set_cons_zero, List.set_cons_succ]) (hCont (gb370) _ ⟨hHeld, (by (with_reducible repeat (first | refine blk_drewN ?_ _ | refine blk_drew ?_ | refine blk_alloc ?_ _)); exact BK360.out), (by (with_reducible repeat (first | refine blk_drewN ?_ _ | refine blk_drew ?_ | refine blk_alloc ?_ _)); exact BK370.out), GW370.out, GE370.out, NB360_370.out, NB370_360.out, (by repeat (first | (with_reducible first | exact HB.out | apply below_alloc | apply pw_below_drewN | apply below_drew1 | refine below_set ?_ GE360.out | refine below_set ?_ GE370.out) | exact HB.out))⟩)
        · skip
          refine box_step ?hg (N := 3) ?hd (cs := #[.bool false, .string (⟨#[]⟩ : ByteArray), .string (⟨#[]⟩ : ByteArray)]) (t := 54) ?hr ?_; (case hd => rfl); (case hg => rfl); (case hr => first | (go_simp; done) | (go_simp; rfl))
          intro gb370 hg w14 hbox hb
          have n0_ := Aside0.mk (blk_below (g := gb360) (o := .cells #[.int .i64 a0_0, .int .i64 a0_1, .int .i64 a0_2, .int .i64 a0_3, .int .i64 a0_4, .int .i64 a0_5] 36 (0, 0)) (by (with_reducible repeat (first | refine blk_drewN ?_ _ | refine blk_drew ?_ | refine blk_alloc ?_ _)); exact BK360.out) hb)
          have n1_ := Aside0.mk (below_step (by repeat (first | (with_reducible first | exact HB.out | apply below_alloc | apply pw_below_drewN | apply below_drew1 | refine below_set ?_ GE360.out) | exact HB.out)) hb)
          have n2_ := Aside0.mk (hbox)
          have n3_ := Aside0.mk ((by rw [hg]; exact (below_size (by repeat (first | (with_reducible first | exact HB.out | apply below_alloc | apply pw_below_drewN | apply below_drew1 | refine below_set ?_ GE360.out) | exact HB.out))) : w.heap.size ≤ gb370))
          have n4_ := Aside0.mk ((by rw [hg]; exact (below_size (by repeat (first | (with_reducible first | exact HB.out | apply below_alloc | apply pw_below_drewN | apply below_drew1 | refine below_set ?_ GE360.out) | exact HB.out))) : w.heap.size ≤ gb370))
          have n5_ := Aside0.mk ((by rw [hg]; exact Nat.ne_of_lt (blk_lt (g := gb360) (o := .cells #[.int .i64 a0_0, .int .i64 a0_1, .int .i64 a0_2, .int .i64 a0_3, .int .i64 a0_4, .int .i64 a0_5] 36 (0, 0)) (by (with_reducible repeat (first | refine blk_drewN ?_ _ | refine blk_drew ?_ | refine blk_alloc ?_ _)); exact BK360.out)) : gb360 ≠ gb370))
          have n6_ := Aside0.mk ((by rw [hg]; exact Nat.ne_of_gt (blk_lt (g := gb360) (o := .cells #[.int .i64 a0_0, .int .i64 a0_1, .int .i64 a0_2, .int .i64 a0_3, .int .i64 a0_4, .int .i64 a0_5] 36 (0, 0)) (by (with_reducible repeat (first | refine blk_drewN ?_ _ | refine blk_drew ?_ | refine blk_alloc ?_ _)); exact BK360.out)) : gb370 ≠ gb360))
          clear BK360
          clear HB
          have BK360 := n0_
          have HB := n1_
          have BK370 := n2_
          have GW370 := n3_
          have GE370 := n4_
          have NB360_370 := n5_
          have NB370_360 := n6_
          clear n0_ n1_ n2_ n3_ n4_ n5_ n6_
          clear hb hbox hg
          refine hK.out _ _ ⟨(blk_cell BK360.out 0).trans rfl, (blk_cell BK360.out 1).trans rfl, (blk_cell BK360.out 2).trans rfl, (blk_cell BK360.out 3).trans rfl, (blk_cell BK360.out 4).trans rfl, (blk_cell BK360.out 5).trans rfl⟩ (fun hHeld => ?_)
          clear hK K
          refine norm_ (a' := ?_) ?_ ?_
          rotate_left
          · show Act.put _ (some 3) _ = _
            simp only [Act.put, List.setIfInBounds_toArray, List.set_cons_zero, List.set_cons_succ, i64_w, i32_w]
            rfl
          refine one_ (i := 0) (N := some 8) #[true, true, true, false, false, true, false] rfl rfl (by kernel_rfl) (by decide) (fun K hK => ?_)
          refine goes_ Try.func24 (by kernel_rfl) rfl #[.int .i64 10] (by rfl) rfl rfl (by (try simp only [List.map_toArray, List.map_cons, List.map_nil]); first | done | rfl | (simp only [List.length_drop, List.length_take]; rfl)) ?_
          with_reducible refine (insolvencyref1_Int.calls k 10 t361 t362 t363 _ A3.out).mono ?_
          rintro e w15 ⟨rfl, hb⟩
          refine ⟨_, rfl, ?_⟩
          have n0_ := Aside0.mk (blk_below (g := gb360) (o := .cells #[.int .i64 a0_0, .int .i64 a0_1, .int .i64 a0_2, .int .i64 a0_3, .int .i64 a0_4, .int .i64 a0_5] 36 (0, 0)) (by (with_reducible repeat (first | refine blk_drewN ?_ _ | refine blk_drew ?_ | refine blk_alloc ?_ _)); exact BK360.out) hb)
          have n1_ := Aside0.mk (blk_below (g := gb370) (o := .cells #[.bool false, .string (⟨#[]⟩ : ByteArray), .string (⟨#[]⟩ : ByteArray)] 54 (0, 0)) (by (with_reducible repeat (first | refine blk_drewN ?_ _ | refine blk_drew ?_ | refine blk_alloc ?_ _)); exact BK370.out) hb)
          have n2_ := Aside0.mk (below_step (by repeat (first | (with_reducible first | exact HB.out | apply below_alloc | apply pw_below_drewN | apply below_drew1 | refine below_set ?_ GE360.out | refine below_set ?_ GE370.out) | exact HB.out)) hb)
          clear BK360
          clear BK370
          clear HB
          have BK360 := n0_
          have BK370 := n1_
          have HB := n2_
          clear n0_ n1_ n2_
          (try clear hb)
          (try clear hb2)
          (try clear hk)
          (try clear hi)
          refine hK.out _ _ ⟨(blk_cell BK360.out 0).trans rfl, (blk_cell BK360.out 1).trans rfl, (blk_cell BK360.out 2).trans rfl, (blk_cell BK360.out 3).trans rfl, (blk_cell BK360.out 4).trans rfl, (blk_cell BK360.out 5).trans rfl⟩ (fun hHeld => ?_)
          clear hK K
          refine norm_ (a' := ?_) ?_ ?_
          rotate_left
          · show Act.put _ (some 8) _ = _
            simp only [Act.put, List.setIfInBounds_toArray, List.set_cons_zero, List.set_cons_succ, i64_w, i32_w]
            rfl
          refine one_ (i := 3) (N := some 11) #[true, true, true, true, false, true, false] rfl rfl (by kernel_rfl) (by decide) (fun K hK => ?_)
          refine goes_ Try.func24 (by kernel_rfl) rfl #[.int .i64 a0_4] (by rfl) rfl rfl (by (try simp only [List.map_toArray, List.map_cons, List.map_nil]); first | done | rfl | (simp only [List.length_drop, List.length_take]; rfl)) ?_
          with_reducible refine (insolvencyref1_Int.calls k a0_4 t364 t365 t366 _ A4.out).mono ?_
          rintro e w16 ⟨rfl, hb⟩
          refine ⟨_, rfl, ?_⟩
          have n0_ := Aside0.mk (blk_below (g := gb360) (o := .cells #[.int .i64 a0_0, .int .i64 a0_1, .int .i64 a0_2, .int .i64 a0_3, .int .i64 a0_4, .int .i64 a0_5] 36 (0, 0)) (by (with_reducible repeat (first | refine blk_drewN ?_ _ | refine blk_drew ?_ | refine blk_alloc ?_ _)); exact BK360.out) hb)
          have n1_ := Aside0.mk (blk_below (g := gb370) (o := .cells #[.bool false, .string (⟨#[]⟩ : ByteArray), .string (⟨#[]⟩ : ByteArray)] 54 (0, 0)) (by (with_reducible repeat (first | refine blk_drewN ?_ _ | refine blk_drew ?_ | refine blk_alloc ?_ _)); exact BK370.out) hb)
          have n2_ := Aside0.mk (below_step (by repeat (first | (with_reducible first | exact HB.out | apply below_alloc | apply pw_below_drewN | apply below_drew1 | refine below_set ?_ GE360.out | refine below_set ?_ GE370.out) | exact HB.out)) hb)
          clear BK360
          clear BK370
          clear HB
          have BK360 := n0_
          have BK370 := n1_
          have HB := n2_
          clear n0_ n1_ n2_
          (try clear hb)
          (try clear hb2)
          (try clear hk)
          (try clear hi)
          refine hK.out _ _ ⟨(blk_cell BK360.out 0).trans rfl, (blk_cell BK360.out 1).trans rfl, (blk_cell BK360.out 2).trans rfl, (blk_cell BK360.out 3).trans rfl, (blk_cell BK360.out 4).trans rfl, (blk_cell BK360.out 5).trans rfl⟩ (fun hHeld => ?_)
          clear hK K
          refine norm_ (a' := ?_) ?_ ?_
          rotate_left
          · show Act.put _ (some 11) _ = _
            simp only [Act.put, List.setIfInBounds_toArray, List.set_cons_zero, List.set_cons_succ, i64_w, i32_w]
            rfl
          refine one_ (i := 4) (N := some 12) #[true, true, true, true, true, true, false] rfl rfl (by kernel_rfl) (by decide) (fun K hK => ?_)
          refine goes_ Try.func23 (by kernel_rfl) rfl #[.agg #[.bool t361, .string t362, .string t363], .agg #[.bool t364, .string t365, .string t366]] (by rfl) rfl rfl (by (try simp only [List.map_toArray, List.map_cons, List.map_nil]); first | done | rfl | (simp only [List.length_drop, List.length_take]; rfl)) ?_
          with_reducible refine (insolvencyref1_Times.calls k t361 t362 t363 t364 t365 t366 t367 t368 t369 _ A5.out).mono ?_
          rintro e w17 ⟨rfl, hb⟩
          refine ⟨_, rfl, ?_⟩
          have n0_ := Aside0.mk (blk_below (g := gb360) (o := .cells #[.int .i64 a0_0, .int .i64 a0_1, .int .i64 a0_2, .int .i64 a0_3, .int .i64 a0_4, .int .i64 a0_5] 36 (0, 0)) (by (with_reducible repeat (first | refine blk_drewN ?_ _ | refine blk_drew ?_ | refine blk_alloc ?_ _)); exact BK360.out) hb)
          have n1_ := Aside0.mk (blk_below (g := gb370) (o := .cells #[.bool false, .string (⟨#[]⟩ : ByteArray), .string (⟨#[]⟩ : ByteArray)] 54 (0, 0)) (by (with_reducible repeat (first | refine blk_drewN ?_ _ | refine blk_drew ?_ | refine blk_alloc ?_ _)); exact BK370.out) hb)
          have n2_ := Aside0.mk (below_step (by repeat (first | (with_reducible first | exact HB.out | apply below_alloc | apply pw_below_drewN | apply below_drew1 | refine below_set ?_ GE360.out | refine below_set ?_ GE370.out) | exact HB.out)) hb)
          clear BK360
          clear BK370
          clear HB
          have BK360 := n0_
          have BK370 := n1_
          have HB := n2_
          clear n0_ n1_ n2_
          (try clear hb)
          (try clear hb2)
          (try clear hk)
          (try clear hi)
          refine hK.out _ _ ⟨(blk_cell BK360.out 0).trans rfl, (blk_cell BK360.out 1).trans rfl, (blk_cell BK360.out 2).trans rfl, (blk_cell BK360.out 3).trans rfl, (blk_cell BK360.out 4).trans rfl, (blk_cell BK360.out 5).trans rfl⟩ (fun hHeld => ?_)
          clear hK K
          refine norm_ (a' := ?_) ?_ ?_
          rotate_left
          · show Act.put _ (some 12) _ = _
            simp only [Act.put, List.setIfInBounds_toArray, List.set_cons_zero, List.set_cons_succ, i64_w, i32_w]
            rfl
          exact norm_ (by simp only [putAll, Act.put, List.setIfInBounds_toArray, List.set_cons_zero, List.set_cons_succ]) (hCont (gb370) _ ⟨hHeld, (by (with_reducible repeat (first | refine blk_drewN ?_ _ | refine blk_drew ?_ | refine blk_alloc ?_ _)); exact BK360.out), (by (with_reducible repeat (first | refine blk_drewN ?_ _ | refine blk_drew ?_ | refine blk_alloc ?_ _)); exact BK370.out), GW370.out, GE370.out, NB360_370.out, NB370_360.out, (by repeat (first | (with_reducible first | exact HB.out | apply below_alloc | apply pw_below_drewN | apply below_drew1 | refine below_set ?_ GE360.out | refine below_set ?_ GE370.out) | exact HB.out))⟩)
      rintro gb370 w18 ⟨hS_, h0_, h1_, h2_, h3_, h4_, h5_, h6_⟩
      have n0_ : Aside0 (w18.heap[gb360]? = some (.cells #[.int .i64 a0_0, .int .i64 a0_1, .int .i64 a0_2, .int .i64 a0_3, .int .i64 a0_4, .int .i64 a0_5] 36 (0, 0))) := ⟨h0_⟩
      have n1_ : Aside0 (w18.heap[gb370]? = some (.cells #[.bool false, .string (⟨#[]⟩ : ByteArray), .string (⟨#[]⟩ : ByteArray)] 54 (0, 0))) := ⟨h1_⟩
      have n2_ : Aside0 (w.heap.size ≤ gb370) := ⟨h2_⟩
      have n3_ : Aside0 (w.heap.size ≤ gb370) := ⟨h3_⟩
      have n4_ : Aside0 (gb360 ≠ gb370) := ⟨h4_⟩
      have n5_ : Aside0 (gb370 ≠ gb360) := ⟨h5_⟩
      have n6_ : Aside0 (Below w.heap.size w w18) := ⟨h6_⟩
      clear BK360
      clear HB
      clear h0_ h1_ h2_ h3_ h4_ h5_ h6_
      have BK360 := n0_
      have BK370 := n1_
      have GW370 := n2_
      have GE370 := n3_
      have NB360_370 := n4_
      have NB370_360 := n5_
      have HB := n6_
      clear n0_ n1_ n2_ n3_ n4_ n5_ n6_
      have hHeld : w18.cell? ⟨gb360, 0, none⟩ = some (.int .i64 a0_0) ∧ w18.cell? ⟨gb360, 1, none⟩ = some (.int .i64 a0_1) ∧ w18.cell? ⟨gb360, 2, none⟩ = some (.int .i64 a0_2) ∧ w18.cell? ⟨gb360, 3, none⟩ = some (.int .i64 a0_3) ∧ w18.cell? ⟨gb360, 4, none⟩ = some (.int .i64 a0_4) ∧ w18.cell? ⟨gb360, 5, none⟩ = some (.int .i64 a0_5) := hS_
      refine norm_ (a' := ?_) ?_ ?_
      rotate_left
      · simp only [putAll, Act.put, List.setIfInBounds_toArray, List.set_cons_zero, List.set_cons_succ]
        rfl
      refine one_ (i := 6) (N := none) #[true, true, true, true, true, true, true] rfl rfl (by kernel_rfl) (by decide) (fun K hK => ?_)
      have hs19 : w18.cell? ⟨gb370, 0, none⟩ = some (.bool false) := (blk_cell BK370.out 0).trans rfl
      have hfs19 := blk_frozen BK370.out 0
      have hns19_0 := NB360_370.out
      have hms19_0 := NB370_360.out
      have hs20 : w18.cell? ⟨gb370, 1, none⟩ = some (.string (⟨#[]⟩ : ByteArray)) := (blk_cell BK370.out 1).trans rfl
      have hfs20 := blk_frozen BK370.out 1
      have hns20_0 := NB360_370.out
      have hms20_0 := NB370_360.out
      have hs21 : w18.cell? ⟨gb370, 2, none⟩ = some (.string (⟨#[]⟩ : ByteArray)) := (blk_cell BK370.out 2).trans rfl
      have hfs21 := blk_frozen BK370.out 2
      have hns21_0 := NB360_370.out
      have hms21_0 := NB370_360.out
      refine skip_ (w1 := ?_) (by rfl) rfl ?_ ?_
      rotate_left
      · go_simp
        rfl
      refine hK.out _ _ ⟨((cell_far (p := ⟨gb370, _, none⟩) NB360_370.out _).trans (((cell_far (p := ⟨gb370, _, none⟩) NB360_370.out _).trans (((cell_far (p := ⟨gb370, _, none⟩) NB360_370.out _).trans (hHeld.1)))))), ((cell_far (p := ⟨gb370, _, none⟩) NB360_370.out _).trans (((cell_far (p := ⟨gb370, _, none⟩) NB360_370.out _).trans (((cell_far (p := ⟨gb370, _, none⟩) NB360_370.out _).trans (hHeld.2.1)))))), ((cell_far (p := ⟨gb370, _, none⟩) NB360_370.out _).trans (((cell_far (p := ⟨gb370, _, none⟩) NB360_370.out _).trans (((cell_far (p := ⟨gb370, _, none⟩) NB360_370.out _).trans (hHeld.2.2.1)))))), ((cell_far (p := ⟨gb370, _, none⟩) NB360_370.out _).trans (((cell_far (p := ⟨gb370, _, none⟩) NB360_370.out _).trans (((cell_far (p := ⟨gb370, _, none⟩) NB360_370.out _).trans (hHeld.2.2.2.1)))))), ((cell_far (p := ⟨gb370, _, none⟩) NB360_370.out _).trans (((cell_far (p := ⟨gb370, _, none⟩) NB360_370.out _).trans (((cell_far (p := ⟨gb370, _, none⟩) NB360_370.out _).trans (hHeld.2.2.2.2.1)))))), ((cell_far (p := ⟨gb370, _, none⟩) NB360_370.out _).trans (((cell_far (p := ⟨gb370, _, none⟩) NB360_370.out _).trans (((cell_far (p := ⟨gb370, _, none⟩) NB360_370.out _).trans (hHeld.2.2.2.2.2))))))⟩ (fun hHeld => ?_)
      clear hK K
      refine done_ (by kernel_rfl) ?_
      try go_wp2
      have n0_ : Aside0 ((((w18.setCell ⟨gb370, 0, none⟩ (.bool t367)).setCell ⟨gb370, 1, none⟩ (.string t368)).setCell ⟨gb370, 2, none⟩ (.string t369)).heap[gb360]? = some (.cells #[.int .i64 a0_0, .int .i64 a0_1, .int .i64 a0_2, .int .i64 a0_3, .int .i64 a0_4, .int .i64 a0_5] 36 (0, 0))) := ⟨by (with_reducible repeat (first | refine blk_drewN ?_ _ | refine blk_drew ?_ | refine blk_alloc ?_ _)); refine blk_far ?_ NB360_370.out _; (with_reducible repeat (first | refine blk_drewN ?_ _ | refine blk_drew ?_ | refine blk_alloc ?_ _)); refine blk_far ?_ NB360_370.out _; (with_reducible repeat (first | refine blk_drewN ?_ _ | refine blk_drew ?_ | refine blk_alloc ?_ _)); refine blk_far ?_ NB360_370.out _; (with_reducible repeat (first | refine blk_drewN ?_ _ | refine blk_drew ?_ | refine blk_alloc ?_ _)); exact BK360.out⟩
      have n1_ : Aside0 ((((w18.setCell ⟨gb370, 0, none⟩ (.bool t367)).setCell ⟨gb370, 1, none⟩ (.string t368)).setCell ⟨gb370, 2, none⟩ (.string t369)).heap[gb370]? = some (.cells #[.bool t367, .string t368, .string t369] 54 (0, 0))) := ⟨by (with_reducible repeat (first | refine blk_drewN ?_ _ | refine blk_drew ?_ | refine blk_alloc ?_ _)); refine blk_put (cs := #[.bool t367, .string t368, .string (⟨#[]⟩ : ByteArray)]) ?_ 2 _ rfl; (with_reducible repeat (first | refine blk_drewN ?_ _ | refine blk_drew ?_ | refine blk_alloc ?_ _)); refine blk_put (cs := #[.bool t367, .string (⟨#[]⟩ : ByteArray), .string (⟨#[]⟩ : ByteArray)]) ?_ 1 _ rfl; (with_reducible repeat (first | refine blk_drewN ?_ _ | refine blk_drew ?_ | refine blk_alloc ?_ _)); refine blk_put (cs := #[.bool false, .string (⟨#[]⟩ : ByteArray), .string (⟨#[]⟩ : ByteArray)]) ?_ 0 _ rfl; (with_reducible repeat (first | refine blk_drewN ?_ _ | refine blk_drew ?_ | refine blk_alloc ?_ _)); exact BK370.out⟩
      have n2_ : Aside0 (Below w.heap.size w (((w18.setCell ⟨gb370, 0, none⟩ (.bool t367)).setCell ⟨gb370, 1, none⟩ (.string t368)).setCell ⟨gb370, 2, none⟩ (.string t369))) := ⟨by repeat (first | (with_reducible first | exact HB.out | apply below_alloc | apply pw_below_drewN | apply below_drew1 | refine below_set ?_ GE360.out | refine below_set ?_ GE370.out) | exact HB.out)⟩
      (try clear BK360)
      (try clear BK370)
      (try clear HB)
      generalize (((w18.setCell ⟨gb370, 0, none⟩ (.bool t367)).setCell ⟨gb370, 1, none⟩ (.string t368)).setCell ⟨gb370, 2, none⟩ (.string t369)) = w22 at n0_ n1_ n2_ ⊢
      have BK360 := n0_
      have BK370 := n1_
      have HB := n2_
      clear n0_ n1_ n2_
      have n0_ := Aside0.mk (blk_drew BK360.out)
      have n1_ := Aside0.mk (blk_drew BK370.out)
      have n2_ := Aside0.mk (below_drew1 HB.out)
      clear BK360
      clear BK370
      clear HB
      have BK360 := n0_
      have BK370 := n1_
      have HB := n2_
      clear n0_ n1_ n2_
      refine start_ (n := 7) (S := fun w' => w'.cell? ⟨gb360, 0, none⟩ = some (.int .i64 a0_0) ∧ w'.cell? ⟨gb360, 1, none⟩ = some (.int .i64 a0_1) ∧ w'.cell? ⟨gb360, 2, none⟩ = some (.int .i64 a0_2) ∧ w'.cell? ⟨gb360, 3, none⟩ = some (.int .i64 a0_3) ∧ w'.cell? ⟨gb360, 4, none⟩ = some (.int .i64 a0_4) ∧ w'.cell? ⟨gb360, 5, none⟩ = some (.int .i64 a0_5)) (ds := []) #[false, false, false, false, false, false, false] (by kernel_rfl) rfl rfl ⟨(blk_cell BK360.out 0).trans rfl, (blk_cell BK360.out 1).trans rfl, (blk_cell BK360.out 2).trans rfl, (blk_cell BK360.out 3).trans rfl, (blk_cell BK360.out 4).trans rfl, (blk_cell BK360.out 5).trans rfl⟩ (fun hHeld => ?_)
      generalize w22.drew = w23 at BK360 BK370 HB hHeld ⊢
      refine pure_ (i := 1) (N := some 14) (v := ?_) (a' := ?_) #[false, true, false, false, false, false, false] rfl rfl (by kernel_rfl) (fun _ _ _ h => h) (Or.inl ⟨by rfl, ?_⟩) ?_ ?_
      rotate_left
      · intro w'
        go_simp
        with_reducible rfl
      rotate_left
      · simp only [Act.put, List.setIfInBounds_toArray, List.set_cons_zero, List.set_cons_succ, i64_w, i32_w]
        rfl
      refine take_ (i := 2) (N := some 15) (v := ?_) (a' := ?_) #[false, true, true, false, false, false, false] rfl rfl (by kernel_rfl) (fun _ _ _ h => h) (Or.inl ⟨by rfl, ?_⟩) hHeld ?_ ?_
      rotate_left
      · rintro w' ⟨s0, s1, s2, s3, s4, s5⟩
        go_simp
        with_reducible rfl
      rotate_left
      · simp only [Act.put, List.setIfInBounds_toArray, List.set_cons_zero, List.set_cons_succ, i64_w, i32_w]
        rfl
      refine join_ (σ := Nat) 1 #[true, true, true, true, true, true, false] (fun s_ => [(13, .agg #[.bool t371, .string t372, .string t373]), (16, .agg #[.bool t374, .string t375, .string t376]), (17, .agg #[.bool t377, .string t378, .string t379]), (4, .pointer (some ⟨s_, 0, none⟩))]) (fun s_ w' => (w'.cell? ⟨gb360, 0, none⟩ = some (.int .i64 a0_0) ∧ w'.cell? ⟨gb360, 1, none⟩ = some (.int .i64 a0_1) ∧ w'.cell? ⟨gb360, 2, none⟩ = some (.int .i64 a0_2) ∧ w'.cell? ⟨gb360, 3, none⟩ = some (.int .i64 a0_3) ∧ w'.cell? ⟨gb360, 4, none⟩ = some (.int .i64 a0_4) ∧ w'.cell? ⟨gb360, 5, none⟩ = some (.int .i64 a0_5)) ∧ (w'.heap[gb360]? = some (.cells #[.int .i64 a0_0, .int .i64 a0_1, .int .i64 a0_2, .int .i64 a0_3, .int .i64 a0_4, .int .i64 a0_5] 36 (0, 0))) ∧ (w'.heap[gb370]? = some (.cells #[.bool t367, .string t368, .string t369] 54 (0, 0))) ∧ (w'.heap[s_]? = some (.cells #[.bool false, .string (⟨#[]⟩ : ByteArray), .string (⟨#[]⟩ : ByteArray)] 54 (0, 0))) ∧ (w.heap.size ≤ s_) ∧ (w.heap.size ≤ s_) ∧ (gb360 ≠ s_) ∧ (s_ ≠ gb360) ∧ (gb370 ≠ s_) ∧ (s_ ≠ gb370) ∧ (Below w.heap.size w w')) ?_ ?_
      rotate_left
      · intro hCont
        refine two_ (i := 0) (j := 5) (Ni := some 13) (Nj := some 4) #[true, true, true, false, false, false, false] #[false, true, true, false, false, true, false] rfl rfl rfl rfl (by kernel_rfl) (by decide) (by decide) (fun K hK => ?_) (fun K hK => ?_)
        · skip
          refine goes_ Try.func24 (by kernel_rfl) rfl #[.int .i64 9] (by rfl) rfl rfl (by (try simp only [List.map_toArray, List.map_cons, List.map_nil]); first | done | rfl | (simp only [List.length_drop, List.length_take]; rfl)) ?_
          with_reducible refine (insolvencyref1_Int.calls k 9 t371 t372 t373 _ A6.out).mono ?_
          rintro e w24 ⟨rfl, hb⟩
          refine ⟨_, rfl, ?_⟩
          have n0_ := Aside0.mk (blk_below (g := gb360) (o := .cells #[.int .i64 a0_0, .int .i64 a0_1, .int .i64 a0_2, .int .i64 a0_3, .int .i64 a0_4, .int .i64 a0_5] 36 (0, 0)) (by (with_reducible repeat (first | refine blk_drewN ?_ _ | refine blk_drew ?_ | refine blk_alloc ?_ _)); exact BK360.out) hb)
          have n1_ := Aside0.mk (blk_below (g := gb370) (o := .cells #[.bool t367, .string t368, .string t369] 54 (0, 0)) (by (with_reducible repeat (first | refine blk_drewN ?_ _ | refine blk_drew ?_ | refine blk_alloc ?_ _)); exact BK370.out) hb)
          have n2_ := Aside0.mk (below_step (by repeat (first | (with_reducible first | exact HB.out | apply below_alloc | apply pw_below_drewN | apply below_drew1 | refine below_set ?_ GE360.out | refine below_set ?_ GE370.out) | exact HB.out)) hb)
          clear BK360
          clear BK370
          clear HB
          have BK360 := n0_
          have BK370 := n1_
          have HB := n2_
          clear n0_ n1_ n2_
          (try clear hb)
          (try clear hb2)
          (try clear hk)
          (try clear hi)
          refine hK.out _ _ ⟨(blk_cell BK360.out 0).trans rfl, (blk_cell BK360.out 1).trans rfl, (blk_cell BK360.out 2).trans rfl, (blk_cell BK360.out 3).trans rfl, (blk_cell BK360.out 4).trans rfl, (blk_cell BK360.out 5).trans rfl⟩ (fun hHeld => ?_)
          clear hK K
          refine norm_ (a' := ?_) ?_ ?_
          rotate_left
          · show Act.put _ (some 13) _ = _
            simp only [Act.put, List.setIfInBounds_toArray, List.set_cons_zero, List.set_cons_succ, i64_w, i32_w]
            rfl
          refine two_ (i := 3) (j := 5) (Ni := some 16) (Nj := some 4) #[true, true, true, true, false, false, false] #[true, true, true, false, false, true, false] rfl rfl rfl rfl (by kernel_rfl) (by decide) (by decide) (fun K hK => ?_) (fun K hK => ?_)
          · skip
            refine goes_ Try.func24 (by kernel_rfl) rfl #[.int .i64 a0_5] (by rfl) rfl rfl (by (try simp only [List.map_toArray, List.map_cons, List.map_nil]); first | done | rfl | (simp only [List.length_drop, List.length_take]; rfl)) ?_
            with_reducible refine (insolvencyref1_Int.calls k a0_5 t374 t375 t376 _ A7.out).mono ?_
            rintro e w25 ⟨rfl, hb⟩
            refine ⟨_, rfl, ?_⟩
            have n0_ := Aside0.mk (blk_below (g := gb360) (o := .cells #[.int .i64 a0_0, .int .i64 a0_1, .int .i64 a0_2, .int .i64 a0_3, .int .i64 a0_4, .int .i64 a0_5] 36 (0, 0)) (by (with_reducible repeat (first | refine blk_drewN ?_ _ | refine blk_drew ?_ | refine blk_alloc ?_ _)); exact BK360.out) hb)
            have n1_ := Aside0.mk (blk_below (g := gb370) (o := .cells #[.bool t367, .string t368, .string t369] 54 (0, 0)) (by (with_reducible repeat (first | refine blk_drewN ?_ _ | refine blk_drew ?_ | refine blk_alloc ?_ _)); exact BK370.out) hb)
            have n2_ := Aside0.mk (below_step (by repeat (first | (with_reducible first | exact HB.out | apply below_alloc | apply pw_below_drewN | apply below_drew1 | refine below_set ?_ GE360.out | refine below_set ?_ GE370.out) | exact HB.out)) hb)
            clear BK360
            clear BK370
            clear HB
            have BK360 := n0_
            have BK370 := n1_
            have HB := n2_
            clear n0_ n1_ n2_
            (try clear hb)
            (try clear hb2)
            (try clear hk)
            (try clear hi)
            refine hK.out _ _ ⟨(blk_cell BK360.out 0).trans rfl, (blk_cell BK360.out 1).trans rfl, (blk_cell BK360.out 2).trans rfl, (blk_cell BK360.out 3).trans rfl, (blk_cell BK360.out 4).trans rfl, (blk_cell BK360.out 5).trans rfl⟩ (fun hHeld => ?_)
            clear hK K
            refine norm_ (a' := ?_) ?_ ?_
            rotate_left
            · show Act.put _ (some 16) _ = _
              simp only [Act.put, List.setIfInBounds_toArray, List.set_cons_zero, List.set_cons_succ, i64_w, i32_w]
              rfl
            refine two_ (i := 4) (j := 5) (Ni := some 17) (Nj := some 4) #[true, true, true, true, true, false, false] #[true, true, true, true, false, true, false] rfl rfl rfl rfl (by kernel_rfl) (by decide) (by decide) (fun K hK => ?_) (fun K hK => ?_)
            · skip
              refine goes_ Try.func23 (by kernel_rfl) rfl #[.agg #[.bool t371, .string t372, .string t373], .agg #[.bool t374, .string t375, .string t376]] (by rfl) rfl rfl (by (try simp only [List.map_toArray, List.map_cons, List.map_nil]); first | done | rfl | (simp only [List.length_drop, List.length_take]; rfl)) ?_
              with_reducible refine (insolvencyref1_Times.calls k t371 t372 t373 t374 t375 t376 t377 t378 t379 _ A8.out).mono ?_
              rintro e w26 ⟨rfl, hb⟩
              refine ⟨_, rfl, ?_⟩
              have n0_ := Aside0.mk (blk_below (g := gb360) (o := .cells #[.int .i64 a0_0, .int .i64 a0_1, .int .i64 a0_2, .int .i64 a0_3, .int .i64 a0_4, .int .i64 a0_5] 36 (0, 0)) (by (with_reducible repeat (first | refine blk_drewN ?_ _ | refine blk_drew ?_ | refine blk_alloc ?_ _)); exact BK360.out) hb)
              have n1_ := Aside0.mk (blk_below (g := gb370) (o := .cells #[.bool t367, .string t368, .string t369] 54 (0, 0)) (by (with_reducible repeat (first | refine blk_drewN ?_ _ | refine blk_drew ?_ | refine blk_alloc ?_ _)); exact BK370.out) hb)
              have n2_ := Aside0.mk (below_step (by repeat (first | (with_reducible first | exact HB.out | apply below_alloc | apply pw_below_drewN | apply below_drew1 | refine below_set ?_ GE360.out | refine below_set ?_ GE370.out) | exact HB.out)) hb)
              clear BK360
              clear BK370
              clear HB
              have BK360 := n0_
              have BK370 := n1_
              have HB := n2_
              clear n0_ n1_ n2_
              (try clear hb)
              (try clear hb2)
              (try clear hk)
              (try clear hi)
              refine hK.out _ _ ⟨(blk_cell BK360.out 0).trans rfl, (blk_cell BK360.out 1).trans rfl, (blk_cell BK360.out 2).trans rfl, (blk_cell BK360.out 3).trans rfl, (blk_cell BK360.out 4).trans rfl, (blk_cell BK360.out 5).trans rfl⟩ (fun hHeld => ?_)
              clear hK K
              refine norm_ (a' := ?_) ?_ ?_
              rotate_left
              · show Act.put _ (some 17) _ = _
                simp only [Act.put, List.setIfInBounds_toArray, List.set_cons_zero, List.set_cons_succ, i64_w, i32_w]
                rfl
              refine one_ (i := 5) (N := some 4) #[true, true, true, true, true, true, false] rfl rfl (by kernel_rfl) (by decide) (fun K hK => ?_)
              refine box_step ?hg (N := 4) ?hd (cs := #[.bool false, .string (⟨#[]⟩ : ByteArray), .string (⟨#[]⟩ : ByteArray)]) (t := 54) ?hr ?_; (case hd => rfl); (case hg => rfl); (case hr => first | (go_simp; done) | (go_simp; rfl))
              intro gb380 hg w27 hbox hb
              have n0_ := Aside0.mk (blk_below (g := gb360) (o := .cells #[.int .i64 a0_0, .int .i64 a0_1, .int .i64 a0_2, .int .i64 a0_3, .int .i64 a0_4, .int .i64 a0_5] 36 (0, 0)) (by (with_reducible repeat (first | refine blk_drewN ?_ _ | refine blk_drew ?_ | refine blk_alloc ?_ _)); exact BK360.out) hb)
              have n1_ := Aside0.mk (blk_below (g := gb370) (o := .cells #[.bool t367, .string t368, .string t369] 54 (0, 0)) (by (with_reducible repeat (first | refine blk_drewN ?_ _ | refine blk_drew ?_ | refine blk_alloc ?_ _)); exact BK370.out) hb)
              have n2_ := Aside0.mk (below_step (by repeat (first | (with_reducible first | exact HB.out | apply below_alloc | apply pw_below_drewN | apply below_drew1 | refine below_set ?_ GE360.out | refine below_set ?_ GE370.out) | exact HB.out)) hb)
              have n3_ := Aside0.mk (hbox)
              have n4_ := Aside0.mk ((by rw [hg]; exact (below_size (by repeat (first | (with_reducible first | exact HB.out | apply below_alloc | apply pw_below_drewN | apply below_drew1 | refine below_set ?_ GE360.out | refine below_set ?_ GE370.out) | exact HB.out))) : w.heap.size ≤ gb380))
              have n5_ := Aside0.mk ((by rw [hg]; exact (below_size (by repeat (first | (with_reducible first | exact HB.out | apply below_alloc | apply pw_below_drewN | apply below_drew1 | refine below_set ?_ GE360.out | refine below_set ?_ GE370.out) | exact HB.out))) : w.heap.size ≤ gb380))
              have n6_ := Aside0.mk ((by rw [hg]; exact Nat.ne_of_lt (blk_lt (g := gb360) (o := .cells #[.int .i64 a0_0, .int .i64 a0_1, .int .i64 a0_2, .int .i64 a0_3, .int .i64 a0_4, .int .i64 a0_5] 36 (0, 0)) (by (with_reducible repeat (first | refine blk_drewN ?_ _ | refine blk_drew ?_ | refine blk_alloc ?_ _)); exact BK360.out)) : gb360 ≠ gb380))
              have n7_ := Aside0.mk ((by rw [hg]; exact Nat.ne_of_gt (blk_lt (g := gb360) (o := .cells #[.int .i64 a0_0, .int .i64 a0_1, .int .i64 a0_2, .int .i64 a0_3, .int .i64 a0_4, .int .i64 a0_5] 36 (0, 0)) (by (with_reducible repeat (first | refine blk_drewN ?_ _ | refine blk_drew ?_ | refine blk_alloc ?_ _)); exact BK360.out)) : gb380 ≠ gb360))
              have n8_ := Aside0.mk ((by rw [hg]; exact Nat.ne_of_lt (blk_lt (g := gb370) (o := .cells #[.bool t367, .string t368, .string t369] 54 (0, 0)) (by (with_reducible repeat (first | refine blk_drewN ?_ _ | refine blk_drew ?_ | refine blk_alloc ?_ _)); exact BK370.out)) : gb370 ≠ gb380))
              have n9_ := Aside0.mk ((by rw [hg]; exact Nat.ne_of_gt (blk_lt (g := gb370) (o := .cells #[.bool t367, .string t368, .string t369] 54 (0, 0)) (by (with_reducible repeat (first | refine blk_drewN ?_ _ | refine blk_drew ?_ | refine blk_alloc ?_ _)); exact BK370.out)) : gb380 ≠ gb370))
              clear BK360
              clear BK370
              clear HB
              have BK360 := n0_
              have BK370 := n1_
              have HB := n2_
              have BK380 := n3_
              have GW380 := n4_
              have GE380 := n5_
              have NB360_380 := n6_
              have NB380_360 := n7_
              have NB370_380 := n8_
              have NB380_370 := n9_
              clear n0_ n1_ n2_ n3_ n4_ n5_ n6_ n7_ n8_ n9_
              clear hb hbox hg
              refine hK.out _ _ ⟨(blk_cell BK360.out 0).trans rfl, (blk_cell BK360.out 1).trans rfl, (blk_cell BK360.out 2).trans rfl, (blk_cell BK360.out 3).trans rfl, (blk_cell BK360.out 4).trans rfl, (blk_cell BK360.out 5).trans rfl⟩ (fun hHeld => ?_)
              clear hK K
              refine norm_ (a' := ?_) ?_ ?_
              rotate_left
              · show Act.put _ (some 4) _ = _
                simp only [Act.put, List.setIfInBounds_toArray, List.set_cons_zero, List.set_cons_succ, i64_w, i32_w]
                rfl
              exact norm_ (by simp only [putAll, Act.put, List.setIfInBounds_toArray, List.set_cons_zero, List.set_cons_succ]) (hCont (gb380) _ ⟨hHeld, (by (with_reducible repeat (first | refine blk_drewN ?_ _ | refine blk_drew ?_ | refine blk_alloc ?_ _)); exact BK360.out), (by (with_reducible repeat (first | refine blk_drewN ?_ _ | refine blk_drew ?_ | refine blk_alloc ?_ _)); exact BK370.out), (by (with_reducible repeat (first | refine blk_drewN ?_ _ | refine blk_drew ?_ | refine blk_alloc ?_ _)); exact BK380.out), GW380.out, GE380.out, NB360_380.out, NB380_360.out, NB370_380.out, NB380_370.out, (by repeat (first | (with_reducible first | exact HB.out | apply below_alloc | apply pw_below_drewN | apply below_drew1 | refine below_set ?_ GE360.out | refine below_set ?_ GE370.out | refine below_set ?_ GE380.out) | exact HB.out))⟩)
            · skip
              refine box_step ?hg (N := 4) ?hd (cs := #[.bool false, .string (⟨#[]⟩ : ByteArray), .string (⟨#[]⟩ : ByteArray)]) (t := 54) ?hr ?_; (case hd => rfl); (case hg => rfl); (case hr => first | (go_simp; done) | (go_simp; rfl))
              intro gb380 hg w26 hbox hb
              have n0_ := Aside0.mk (blk_below (g := gb360) (o := .cells #[.int .i64 a0_0, .int .i64 a0_1, .int .i64 a0_2, .int .i64 a0_3, .int .i64 a0_4, .int .i64 a0_5] 36 (0, 0)) (by (with_reducible repeat (first | refine blk_drewN ?_ _ | refine blk_drew ?_ | refine blk_alloc ?_ _)); exact BK360.out) hb)
              have n1_ := Aside0.mk (blk_below (g := gb370) (o := .cells #[.bool t367, .string t368, .string t369] 54 (0, 0)) (by (with_reducible repeat (first | refine blk_drewN ?_ _ | refine blk_drew ?_ | refine blk_alloc ?_ _)); exact BK370.out) hb)
              have n2_ := Aside0.mk (below_step (by repeat (first | (with_reducible first | exact HB.out | apply below_alloc | apply pw_below_drewN | apply below_drew1 | refine below_set ?_ GE360.out | refine below_set ?_ GE370.out) | exact HB.out)) hb)
              have n3_ := Aside0.mk (hbox)
              have n4_ := Aside0.mk ((by rw [hg]; exact (below_size (by repeat (first | (with_reducible first | exact HB.out | apply below_alloc | apply pw_below_drewN | apply below_drew1 | refine below_set ?_ GE360.out | refine below_set ?_ GE370.out) | exact HB.out))) : w.heap.size ≤ gb380))
              have n5_ := Aside0.mk ((by rw [hg]; exact (below_size (by repeat (first | (with_reducible first | exact HB.out | apply below_alloc | apply pw_below_drewN | apply below_drew1 | refine below_set ?_ GE360.out | refine below_set ?_ GE370.out) | exact HB.out))) : w.heap.size ≤ gb380))
              have n6_ := Aside0.mk ((by rw [hg]; exact Nat.ne_of_lt (blk_lt (g := gb360) (o := .cells #[.int .i64 a0_0, .int .i64 a0_1, .int .i64 a0_2, .int .i64 a0_3, .int .i64 a0_4, .int .i64 a0_5] 36 (0, 0)) (by (with_reducible repeat (first | refine blk_drewN ?_ _ | refine blk_drew ?_ | refine blk_alloc ?_ _)); exact BK360.out)) : gb360 ≠ gb380))
              have n7_ := Aside0.mk ((by rw [hg]; exact Nat.ne_of_gt (blk_lt (g := gb360) (o := .cells #[.int .i64 a0_0, .int .i64 a0_1, .int .i64 a0_2, .int .i64 a0_3, .int .i64 a0_4, .int .i64 a0_5] 36 (0, 0)) (by (with_reducible repeat (first | refine blk_drewN ?_ _ | refine blk_drew ?_ | refine blk_alloc ?_ _)); exact BK360.out)) : gb380 ≠ gb360))
              have n8_ := Aside0.mk ((by rw [hg]; exact Nat.ne_of_lt (blk_lt (g := gb370) (o := .cells #[.bool t367, .string t368, .string t369] 54 (0, 0)) (by (with_reducible repeat (first | refine blk_drewN ?_ _ | refine blk_drew ?_ | refine blk_alloc ?_ _)); exact BK370.out)) : gb370 ≠ gb380))
              have n9_ := Aside0.mk ((by rw [hg]; exact Nat.ne_of_gt (blk_lt (g := gb370) (o := .cells #[.bool t367, .string t368, .string t369] 54 (0, 0)) (by (with_reducible repeat (first | refine blk_drewN ?_ _ | refine blk_drew ?_ | refine blk_alloc ?_ _)); exact BK370.out)) : gb380 ≠ gb370))
              clear BK360
              clear BK370
              clear HB
              have BK360 := n0_
              have BK370 := n1_
              have HB := n2_
              have BK380 := n3_
              have GW380 := n4_
              have GE380 := n5_
              have NB360_380 := n6_
              have NB380_360 := n7_
              have NB370_380 := n8_
              have NB380_370 := n9_
              clear n0_ n1_ n2_ n3_ n4_ n5_ n6_ n7_ n8_ n9_
              clear hb hbox hg
              refine hK.out _ _ ⟨(blk_cell BK360.out 0).trans rfl, (blk_cell BK360.out 1).trans rfl, (blk_cell BK360.out 2).trans rfl, (blk_cell BK360.out 3).trans rfl, (blk_cell BK360.out 4).trans rfl, (blk_cell BK360.out 5).trans rfl⟩ (fun hHeld => ?_)
              clear hK K
              refine norm_ (a' := ?_) ?_ ?_
              rotate_left
              · show Act.put _ (some 4) _ = _
                simp only [Act.put, List.setIfInBounds_toArray, List.set_cons_zero, List.set_cons_succ, i64_w, i32_w]
                rfl
              refine one_ (i := 4) (N := some 17) #[true, true, true, true, true, true, false] rfl rfl (by kernel_rfl) (by decide) (fun K hK => ?_)
              refine goes_ Try.func23 (by kernel_rfl) rfl #[.agg #[.bool t371, .string t372, .string t373], .agg #[.bool t374, .string t375, .string t376]] (by rfl) rfl rfl (by (try simp only [List.map_toArray, List.map_cons, List.map_nil]); first | done | rfl | (simp only [List.length_drop, List.length_take]; rfl)) ?_
              with_reducible refine (insolvencyref1_Times.calls k t371 t372 t373 t374 t375 t376 t377 t378 t379 _ A8.out).mono ?_
              rintro e w27 ⟨rfl, hb⟩
              refine ⟨_, rfl, ?_⟩
              have n0_ := Aside0.mk (blk_below (g := gb360) (o := .cells #[.int .i64 a0_0, .int .i64 a0_1, .int .i64 a0_2, .int .i64 a0_3, .int .i64 a0_4, .int .i64 a0_5] 36 (0, 0)) (by (with_reducible repeat (first | refine blk_drewN ?_ _ | refine blk_drew ?_ | refine blk_alloc ?_ _)); exact BK360.out) hb)
              have n1_ := Aside0.mk (blk_below (g := gb370) (o := .cells #[.bool t367, .string t368, .string t369] 54 (0, 0)) (by (with_reducible repeat (first | refine blk_drewN ?_ _ | refine blk_drew ?_ | refine blk_alloc ?_ _)); exact BK370.out) hb)
              have n2_ := Aside0.mk (blk_below (g := gb380) (o := .cells #[.bool false, .string (⟨#[]⟩ : ByteArray), .string (⟨#[]⟩ : ByteArray)] 54 (0, 0)) (by (with_reducible repeat (first | refine blk_drewN ?_ _ | refine blk_drew ?_ | refine blk_alloc ?_ _)); exact BK380.out) hb)
              have n3_ := Aside0.mk (below_step (by repeat (first | (with_reducible first | exact HB.out | apply below_alloc | apply pw_below_drewN | apply below_drew1 | refine below_set ?_ GE360.out | refine below_set ?_ GE370.out | refine below_set ?_ GE380.out) | exact HB.out)) hb)
              clear BK360
              clear BK370
              clear BK380
              clear HB
              have BK360 := n0_
              have BK370 := n1_
              have BK380 := n2_
              have HB := n3_
              clear n0_ n1_ n2_ n3_
              (try clear hb)
              (try clear hb2)
              (try clear hk)
              (try clear hi)
              refine hK.out _ _ ⟨(blk_cell BK360.out 0).trans rfl, (blk_cell BK360.out 1).trans rfl, (blk_cell BK360.out 2).trans rfl, (blk_cell BK360.out 3).trans rfl, (blk_cell BK360.out 4).trans rfl, (blk_cell BK360.out 5).trans rfl⟩ (fun hHeld => ?_)
              clear hK K
              refine norm_ (a' := ?_) ?_ ?_
              rotate_left
              · show Act.put _ (some 17) _ = _
                simp only [Act.put, List.setIfInBounds_toArray, List.set_cons_zero, List.set_cons_succ, i64_w, i32_w]
                rfl
              exact norm_ (by simp only [putAll, Act.put, List.setIfInBounds_toArray, List.set_cons_zero, List.set_cons_succ]) (hCont (gb380) _ ⟨hHeld, (by (with_reducible repeat (first | refine blk_drewN ?_ _ | refine blk_drew ?_ | refine blk_alloc ?_ _)); exact BK360.out), (by (with_reducible repeat (first | refine blk_drewN ?_ _ | refine blk_drew ?_ | refine blk_alloc ?_ _)); exact BK370.out), (by (with_reducible repeat (first | refine blk_drewN ?_ _ | refine blk_drew ?_ | refine blk_alloc ?_ _)); exact BK380.out), GW380.out, GE380.out, NB360_380.out, NB380_360.out, NB370_380.out, NB380_370.out, (by repeat (first | (with_reducible first | exact HB.out | apply below_alloc | apply pw_below_drewN | apply below_drew1 | refine below_set ?_ GE360.out | refine below_set ?_ GE370.out | refine below_set ?_ GE380.out) | exact HB.out))⟩)
          · skip
            refine box_step ?hg (N := 4) ?hd (cs := #[.bool false, .string (⟨#[]⟩ : ByteArray), .string (⟨#[]⟩ : ByteArray)]) (t := 54) ?hr ?_; (case hd => rfl); (case hg => rfl); (case hr => first | (go_simp; done) | (go_simp; rfl))
            intro gb380 hg w25 hbox hb
            have n0_ := Aside0.mk (blk_below (g := gb360) (o := .cells #[.int .i64 a0_0, .int .i64 a0_1, .int .i64 a0_2, .int .i64 a0_3, .int .i64 a0_4, .int .i64 a0_5] 36 (0, 0)) (by (with_reducible repeat (first | refine blk_drewN ?_ _ | refine blk_drew ?_ | refine blk_alloc ?_ _)); exact BK360.out) hb)
            have n1_ := Aside0.mk (blk_below (g := gb370) (o := .cells #[.bool t367, .string t368, .string t369] 54 (0, 0)) (by (with_reducible repeat (first | refine blk_drewN ?_ _ | refine blk_drew ?_ | refine blk_alloc ?_ _)); exact BK370.out) hb)
            have n2_ := Aside0.mk (below_step (by repeat (first | (with_reducible first | exact HB.out | apply below_alloc | apply pw_below_drewN | apply below_drew1 | refine below_set ?_ GE360.out | refine below_set ?_ GE370.out) | exact HB.out)) hb)
            have n3_ := Aside0.mk (hbox)
            have n4_ := Aside0.mk ((by rw [hg]; exact (below_size (by repeat (first | (with_reducible first | exact HB.out | apply below_alloc | apply pw_below_drewN | apply below_drew1 | refine below_set ?_ GE360.out | refine below_set ?_ GE370.out) | exact HB.out))) : w.heap.size ≤ gb380))
            have n5_ := Aside0.mk ((by rw [hg]; exact (below_size (by repeat (first | (with_reducible first | exact HB.out | apply below_alloc | apply pw_below_drewN | apply below_drew1 | refine below_set ?_ GE360.out | refine below_set ?_ GE370.out) | exact HB.out))) : w.heap.size ≤ gb380))
            have n6_ := Aside0.mk ((by rw [hg]; exact Nat.ne_of_lt (blk_lt (g := gb360) (o := .cells #[.int .i64 a0_0, .int .i64 a0_1, .int .i64 a0_2, .int .i64 a0_3, .int .i64 a0_4, .int .i64 a0_5] 36 (0, 0)) (by (with_reducible repeat (first | refine blk_drewN ?_ _ | refine blk_drew ?_ | refine blk_alloc ?_ _)); exact BK360.out)) : gb360 ≠ gb380))
            have n7_ := Aside0.mk ((by rw [hg]; exact Nat.ne_of_gt (blk_lt (g := gb360) (o := .cells #[.int .i64 a0_0, .int .i64 a0_1, .int .i64 a0_2, .int .i64 a0_3, .int .i64 a0_4, .int .i64 a0_5] 36 (0, 0)) (by (with_reducible repeat (first | refine blk_drewN ?_ _ | refine blk_drew ?_ | refine blk_alloc ?_ _)); exact BK360.out)) : gb380 ≠ gb360))
            have n8_ := Aside0.mk ((by rw [hg]; exact Nat.ne_of_lt (blk_lt (g := gb370) (o := .cells #[.bool t367, .string t368, .string t369] 54 (0, 0)) (by (with_reducible repeat (first | refine blk_drewN ?_ _ | refine blk_drew ?_ | refine blk_alloc ?_ _)); exact BK370.out)) : gb370 ≠ gb380))
            have n9_ := Aside0.mk ((by rw [hg]; exact Nat.ne_of_gt (blk_lt (g := gb370) (o := .cells #[.bool t367, .string t368, .string t369] 54 (0, 0)) (by (with_reducible repeat (first | refine blk_drewN ?_ _ | refine blk_drew ?_ | refine blk_alloc ?_ _)); exact BK370.out)) : gb380 ≠ gb370))
            clear BK360
            clear BK370
            clear HB
            have BK360 := n0_
            have BK370 := n1_
            have HB := n2_
            have BK380 := n3_
            have GW380 := n4_
            have GE380 := n5_
            have NB360_380 := n6_
            have NB380_360 := n7_
            have NB370_380 := n8_
            have NB380_370 := n9_
            clear n0_ n1_ n2_ n3_ n4_ n5_ n6_ n7_ n8_ n9_
            clear hb hbox hg
            refine hK.out _ _ ⟨(blk_cell BK360.out 0).trans rfl, (blk_cell BK360.out 1).trans rfl, (blk_cell BK360.out 2).trans rfl, (blk_cell BK360.out 3).trans rfl, (blk_cell BK360.out 4).trans rfl, (blk_cell BK360.out 5).trans rfl⟩ (fun hHeld => ?_)
            clear hK K
            refine norm_ (a' := ?_) ?_ ?_
            rotate_left
            · show Act.put _ (some 4) _ = _
              simp only [Act.put, List.setIfInBounds_toArray, List.set_cons_zero, List.set_cons_succ, i64_w, i32_w]
              rfl
            refine one_ (i := 3) (N := some 16) #[true, true, true, true, false, true, false] rfl rfl (by kernel_rfl) (by decide) (fun K hK => ?_)
            refine goes_ Try.func24 (by kernel_rfl) rfl #[.int .i64 a0_5] (by rfl) rfl rfl (by (try simp only [List.map_toArray, List.map_cons, List.map_nil]); first | done | rfl | (simp only [List.length_drop, List.length_take]; rfl)) ?_
            with_reducible refine (insolvencyref1_Int.calls k a0_5 t374 t375 t376 _ A7.out).mono ?_
            rintro e w26 ⟨rfl, hb⟩
            refine ⟨_, rfl, ?_⟩
            have n0_ := Aside0.mk (blk_below (g := gb360) (o := .cells #[.int .i64 a0_0, .int .i64 a0_1, .int .i64 a0_2, .int .i64 a0_3, .int .i64 a0_4, .int .i64 a0_5] 36 (0, 0)) (by (with_reducible repeat (first | refine blk_drewN ?_ _ | refine blk_drew ?_ | refine blk_alloc ?_ _)); exact BK360.out) hb)
            have n1_ := Aside0.mk (blk_below (g := gb370) (o := .cells #[.bool t367, .string t368, .string t369] 54 (0, 0)) (by (with_reducible repeat (first | refine blk_drewN ?_ _ | refine blk_drew ?_ | refine blk_alloc ?_ _)); exact BK370.out) hb)
            have n2_ := Aside0.mk (blk_below (g := gb380) (o := .cells #[.bool false, .string (⟨#[]⟩ : ByteArray), .string (⟨#[]⟩ : ByteArray)] 54 (0, 0)) (by (with_reducible repeat (first | refine blk_drewN ?_ _ | refine blk_drew ?_ | refine blk_alloc ?_ _)); exact BK380.out) hb)
            have n3_ := Aside0.mk (below_step (by repeat (first | (with_reducible first | exact HB.out | apply below_alloc | apply pw_below_drewN | apply below_drew1 | refine below_set ?_ GE360.out | refine below_set ?_ GE370.out | refine below_set ?_ GE380.out) | exact HB.out)) hb)
            clear BK360
            clear BK370
            clear BK380
            clear HB
            have BK360 := n0_
            have BK370 := n1_
            have BK380 := n2_
            have HB := n3_
            clear n0_ n1_ n2_ n3_
            (try clear hb)
            (try clear hb2)
            (try clear hk)
            (try clear hi)
            refine hK.out _ _ ⟨(blk_cell BK360.out 0).trans rfl, (blk_cell BK360.out 1).trans rfl, (blk_cell BK360.out 2).trans rfl, (blk_cell BK360.out 3).trans rfl, (blk_cell BK360.out 4).trans rfl, (blk_cell BK360.out 5).trans rfl⟩ (fun hHeld => ?_)
            clear hK K
            refine norm_ (a' := ?_) ?_ ?_
            rotate_left
            · show Act.put _ (some 16) _ = _
              simp only [Act.put, List.setIfInBounds_toArray, List.set_cons_zero, List.set_cons_succ, i64_w, i32_w]
              rfl
            refine one_ (i := 4) (N := some 17) #[true, true, true, true, true, true, false] rfl rfl (by kernel_rfl) (by decide) (fun K hK => ?_)
            refine goes_ Try.func23 (by kernel_rfl) rfl #[.agg #[.bool t371, .string t372, .string t373], .agg #[.bool t374, .string t375, .string t376]] (by rfl) rfl rfl (by (try simp only [List.map_toArray, List.map_cons, List.map_nil]); first | done | rfl | (simp only [List.length_drop, List.length_take]; rfl)) ?_
            with_reducible refine (insolvencyref1_Times.calls k t371 t372 t373 t374 t375 t376 t377 t378 t379 _ A8.out).mono ?_
            rintro e w27 ⟨rfl, hb⟩
            refine ⟨_, rfl, ?_⟩
            have n0_ := Aside0.mk (blk_below (g := gb360) (o := .cells #[.int .i64 a0_0, .int .i64 a0_1, .int .i64 a0_2, .int .i64 a0_3, .int .i64 a0_4, .int .i64 a0_5] 36 (0, 0)) (by (with_reducible repeat (first | refine blk_drewN ?_ _ | refine blk_drew ?_ | refine blk_alloc ?_ _)); exact BK360.out) hb)
            have n1_ := Aside0.mk (blk_below (g := gb370) (o := .cells #[.bool t367, .string t368, .string t369] 54 (0, 0)) (by (with_reducible repeat (first | refine blk_drewN ?_ _ | refine blk_drew ?_ | refine blk_alloc ?_ _)); exact BK370.out) hb)
            have n2_ := Aside0.mk (blk_below (g := gb380) (o := .cells #[.bool false, .string (⟨#[]⟩ : ByteArray), .string (⟨#[]⟩ : ByteArray)] 54 (0, 0)) (by (with_reducible repeat (first | refine blk_drewN ?_ _ | refine blk_drew ?_ | refine blk_alloc ?_ _)); exact BK380.out) hb)
            have n3_ := Aside0.mk (below_step (by repeat (first | (with_reducible first | exact HB.out | apply below_alloc | apply pw_below_drewN | apply below_drew1 | refine below_set ?_ GE360.out | refine below_set ?_ GE370.out | refine below_set ?_ GE380.out) | exact HB.out)) hb)
            clear BK360
            clear BK370
            clear BK380
            clear HB
            have BK360 := n0_
            have BK370 := n1_
            have BK380 := n2_
            have HB := n3_
            clear n0_ n1_ n2_ n3_
            (try clear hb)
            (try clear hb2)
            (try clear hk)
            (try clear hi)
            refine hK.out _ _ ⟨(blk_cell BK360.out 0).trans rfl, (blk_cell BK360.out 1).trans rfl, (blk_cell BK360.out 2).trans rfl, (blk_cell BK360.out 3).trans rfl, (blk_cell BK360.out 4).trans rfl, (blk_cell BK360.out 5).trans rfl⟩ (fun hHeld => ?_)
            clear hK K
            refine norm_ (a' := ?_) ?_ ?_
            rotate_left
            · show Act.put _ (some 17) _ = _
              simp only [Act.put, List.setIfInBounds_toArray, List.set_cons_zero, List.set_cons_succ, i64_w, i32_w]
              rfl
            exact norm_ (by simp only [putAll, Act.put, List.setIfInBounds_toArray, List.set_cons_zero, List.set_cons_succ]) (hCont (gb380) _ ⟨hHeld, (by (with_reducible repeat (first | refine blk_drewN ?_ _ | refine blk_drew ?_ | refine blk_alloc ?_ _)); exact BK360.out), (by (with_reducible repeat (first | refine blk_drewN ?_ _ | refine blk_drew ?_ | refine blk_alloc ?_ _)); exact BK370.out), (by (with_reducible repeat (first | refine blk_drewN ?_ _ | refine blk_drew ?_ | refine blk_alloc ?_ _)); exact BK380.out), GW380.out, GE380.out, NB360_380.out, NB380_360.out, NB370_380.out, NB380_370.out, (by repeat (first | (with_reducible first | exact HB.out | apply below_alloc | apply pw_below_drewN | apply below_drew1 | refine below_set ?_ GE360.out | refine below_set ?_ GE370.out | refine below_set ?_ GE380.out) | exact HB.out))⟩)
        · skip
          refine box_step ?hg (N := 4) ?hd (cs := #[.bool false, .string (⟨#[]⟩ : ByteArray), .string (⟨#[]⟩ : ByteArray)]) (t := 54) ?hr ?_; (case hd => rfl); (case hg => rfl); (case hr => first | (go_simp; done) | (go_simp; rfl))
          intro gb380 hg w24 hbox hb
          have n0_ := Aside0.mk (blk_below (g := gb360) (o := .cells #[.int .i64 a0_0, .int .i64 a0_1, .int .i64 a0_2, .int .i64 a0_3, .int .i64 a0_4, .int .i64 a0_5] 36 (0, 0)) (by (with_reducible repeat (first | refine blk_drewN ?_ _ | refine blk_drew ?_ | refine blk_alloc ?_ _)); exact BK360.out) hb)
          have n1_ := Aside0.mk (blk_below (g := gb370) (o := .cells #[.bool t367, .string t368, .string t369] 54 (0, 0)) (by (with_reducible repeat (first | refine blk_drewN ?_ _ | refine blk_drew ?_ | refine blk_alloc ?_ _)); exact BK370.out) hb)
          have n2_ := Aside0.mk (below_step (by repeat (first | (with_reducible first | exact HB.out | apply below_alloc | apply pw_below_drewN | apply below_drew1 | refine below_set ?_ GE360.out | refine below_set ?_ GE370.out) | exact HB.out)) hb)
          have n3_ := Aside0.mk (hbox)
          have n4_ := Aside0.mk ((by rw [hg]; exact (below_size (by repeat (first | (with_reducible first | exact HB.out | apply below_alloc | apply pw_below_drewN | apply below_drew1 | refine below_set ?_ GE360.out | refine below_set ?_ GE370.out) | exact HB.out))) : w.heap.size ≤ gb380))
          have n5_ := Aside0.mk ((by rw [hg]; exact (below_size (by repeat (first | (with_reducible first | exact HB.out | apply below_alloc | apply pw_below_drewN | apply below_drew1 | refine below_set ?_ GE360.out | refine below_set ?_ GE370.out) | exact HB.out))) : w.heap.size ≤ gb380))
          have n6_ := Aside0.mk ((by rw [hg]; exact Nat.ne_of_lt (blk_lt (g := gb360) (o := .cells #[.int .i64 a0_0, .int .i64 a0_1, .int .i64 a0_2, .int .i64 a0_3, .int .i64 a0_4, .int .i64 a0_5] 36 (0, 0)) (by (with_reducible repeat (first | refine blk_drewN ?_ _ | refine blk_drew ?_ | refine blk_alloc ?_ _)); exact BK360.out)) : gb360 ≠ gb380))
          have n7_ := Aside0.mk ((by rw [hg]; exact Nat.ne_of_gt (blk_lt (g := gb360) (o := .cells #[.int .i64 a0_0, .int .i64 a0_1, .int .i64 a0_2, .int .i64 a0_3, .int .i64 a0_4, .int .i64 a0_5] 36 (0, 0)) (by (with_reducible repeat (first | refine blk_drewN ?_ _ | refine blk_drew ?_ | refine blk_alloc ?_ _)); exact BK360.out)) : gb380 ≠ gb360))
          have n8_ := Aside0.mk ((by rw [hg]; exact Nat.ne_of_lt (blk_lt (g := gb370) (o := .cells #[.bool t367, .string t368, .string t369] 54 (0, 0)) (by (with_reducible repeat (first | refine blk_drewN ?_ _ | refine blk_drew ?_ | refine blk_alloc ?_ _)); exact BK370.out)) : gb370 ≠ gb380))
          have n9_ := Aside0.mk ((by rw [hg]; exact Nat.ne_of_gt (blk_lt (g := gb370) (o := .cells #[.bool t367, .string t368, .string t369] 54 (0, 0)) (by (with_reducible repeat (first | refine blk_drewN ?_ _ | refine blk_drew ?_ | refine blk_alloc ?_ _)); exact BK370.out)) : gb380 ≠ gb370))
          clear BK360
          clear BK370
          clear HB
          have BK360 := n0_
          have BK370 := n1_
          have HB := n2_
          have BK380 := n3_
          have GW380 := n4_
          have GE380 := n5_
          have NB360_380 := n6_
          have NB380_360 := n7_
          have NB370_380 := n8_
          have NB380_370 := n9_
          clear n0_ n1_ n2_ n3_ n4_ n5_ n6_ n7_ n8_ n9_
          clear hb hbox hg
          refine hK.out _ _ ⟨(blk_cell BK360.out 0).trans rfl, (blk_cell BK360.out 1).trans rfl, (blk_cell BK360.out 2).trans rfl, (blk_cell BK360.out 3).trans rfl, (blk_cell BK360.out 4).trans rfl, (blk_cell BK360.out 5).trans rfl⟩ (fun hHeld => ?_)
          clear hK K
          refine norm_ (a' := ?_) ?_ ?_
          rotate_left
          · show Act.put _ (some 4) _ = _
            simp only [Act.put, List.setIfInBounds_toArray, List.set_cons_zero, List.set_cons_succ, i64_w, i32_w]
            rfl
          refine one_ (i := 0) (N := some 13) #[true, true, true, false, false, true, false] rfl rfl (by kernel_rfl) (by decide) (fun K hK => ?_)
          refine goes_ Try.func24 (by kernel_rfl) rfl #[.int .i64 9] (by rfl) rfl rfl (by (try simp only [List.map_toArray, List.map_cons, List.map_nil]); first | done | rfl | (simp only [List.length_drop, List.length_take]; rfl)) ?_
          with_reducible refine (insolvencyref1_Int.calls k 9 t371 t372 t373 _ A6.out).mono ?_
          rintro e w25 ⟨rfl, hb⟩
          refine ⟨_, rfl, ?_⟩
          have n0_ := Aside0.mk (blk_below (g := gb360) (o := .cells #[.int .i64 a0_0, .int .i64 a0_1, .int .i64 a0_2, .int .i64 a0_3, .int .i64 a0_4, .int .i64 a0_5] 36 (0, 0)) (by (with_reducible repeat (first | refine blk_drewN ?_ _ | refine blk_drew ?_ | refine blk_alloc ?_ _)); exact BK360.out) hb)
          have n1_ := Aside0.mk (blk_below (g := gb370) (o := .cells #[.bool t367, .string t368, .string t369] 54 (0, 0)) (by (with_reducible repeat (first | refine blk_drewN ?_ _ | refine blk_drew ?_ | refine blk_alloc ?_ _)); exact BK370.out) hb)
          have n2_ := Aside0.mk (blk_below (g := gb380) (o := .cells #[.bool false, .string (⟨#[]⟩ : ByteArray), .string (⟨#[]⟩ : ByteArray)] 54 (0, 0)) (by (with_reducible repeat (first | refine blk_drewN ?_ _ | refine blk_drew ?_ | refine blk_alloc ?_ _)); exact BK380.out) hb)
          have n3_ := Aside0.mk (below_step (by repeat (first | (with_reducible first | exact HB.out | apply below_alloc | apply pw_below_drewN | apply below_drew1 | refine below_set ?_ GE360.out | refine below_set ?_ GE370.out | refine below_set ?_ GE380.out) | exact HB.out)) hb)
          clear BK360
          clear BK370
          clear BK380
          clear HB
          have BK360 := n0_
          have BK370 := n1_
          have BK380 := n2_
          have HB := n3_
          clear n0_ n1_ n2_ n3_
          (try clear hb)
          (try clear hb2)
          (try clear hk)
          (try clear hi)
          refine hK.out _ _ ⟨(blk_cell BK360.out 0).trans rfl, (blk_cell BK360.out 1).trans rfl, (blk_cell BK360.out 2).trans rfl, (blk_cell BK360.out 3).trans rfl, (blk_cell BK360.out 4).trans rfl, (blk_cell BK360.out 5).trans rfl⟩ (fun hHeld => ?_)
          clear hK K
          refine norm_ (a' := ?_) ?_ ?_
          rotate_left
          · show Act.put _ (some 13) _ = _
            simp only [Act.put, List.setIfInBounds_toArray, List.set_cons_zero, List.set_cons_succ, i64_w, i32_w]
            rfl
          refine one_ (i := 3) (N := some 16) #[true, true, true, true, false, true, false] rfl rfl (by kernel_rfl) (by decide) (fun K hK => ?_)
          refine goes_ Try.func24 (by kernel_rfl) rfl #[.int .i64 a0_5] (by rfl) rfl rfl (by (try simp only [List.map_toArray, List.map_cons, List.map_nil]); first | done | rfl | (simp only [List.length_drop, List.length_take]; rfl)) ?_
          with_reducible refine (insolvencyref1_Int.calls k a0_5 t374 t375 t376 _ A7.out).mono ?_
          rintro e w26 ⟨rfl, hb⟩
          refine ⟨_, rfl, ?_⟩
          have n0_ := Aside0.mk (blk_below (g := gb360) (o := .cells #[.int .i64 a0_0, .int .i64 a0_1, .int .i64 a0_2, .int .i64 a0_3, .int .i64 a0_4, .int .i64 a0_5] 36 (0, 0)) (by (with_reducible repeat (first | refine blk_drewN ?_ _ | refine blk_drew ?_ | refine blk_alloc ?_ _)); exact BK360.out) hb)
          have n1_ := Aside0.mk (blk_below (g := gb370) (o := .cells #[.bool t367, .string t368, .string t369] 54 (0, 0)) (by (with_reducible repeat (first | refine blk_drewN ?_ _ | refine blk_drew ?_ | refine blk_alloc ?_ _)); exact BK370.out) hb)
          have n2_ := Aside0.mk (blk_below (g := gb380) (o := .cells #[.bool false, .string (⟨#[]⟩ : ByteArray), .string (⟨#[]⟩ : ByteArray)] 54 (0, 0)) (by (with_reducible repeat (first | refine blk_drewN ?_ _ | refine blk_drew ?_ | refine blk_alloc ?_ _)); exact BK380.out) hb)
          have n3_ := Aside0.mk (below_step (by repeat (first | (with_reducible first | exact HB.out | apply below_alloc | apply pw_below_drewN | apply below_drew1 | refine below_set ?_ GE360.out | refine below_set ?_ GE370.out | refine below_set ?_ GE380.out) | exact HB.out)) hb)
          clear BK360
          clear BK370
          clear BK380
          clear HB
          have BK360 := n0_
          have BK370 := n1_
          have BK380 := n2_
          have HB := n3_
          clear n0_ n1_ n2_ n3_
          (try clear hb)
          (try clear hb2)
          (try clear hk)
          (try clear hi)
          refine hK.out _ _ ⟨(blk_cell BK360.out 0).trans rfl, (blk_cell BK360.out 1).trans rfl, (blk_cell BK360.out 2).trans rfl, (blk_cell BK360.out 3).trans rfl, (blk_cell BK360.out 4).trans rfl, (blk_cell BK360.out 5).trans rfl⟩ (fun hHeld => ?_)
          clear hK K
          refine norm_ (a' := ?_) ?_ ?_
          rotate_left
          · show Act.put _ (some 16) _ = _
            simp only [Act.put, List.setIfInBounds_toArray, List.set_cons_zero, List.set_cons_succ, i64_w, i32_w]
            rfl
          refine one_ (i := 4) (N := some 17) #[true, true, true, true, true, true, false] rfl rfl (by kernel_rfl) (by decide) (fun K hK => ?_)
          refine goes_ Try.func23 (by kernel_rfl) rfl #[.agg #[.bool t371, .string t372, .string t373], .agg #[.bool t374, .string t375, .string t376]] (by rfl) rfl rfl (by (try simp only [List.map_toArray, List.map_cons, List.map_nil]); first | done | rfl | (simp only [List.length_drop, List.length_take]; rfl)) ?_
          with_reducible refine (insolvencyref1_Times.calls k t371 t372 t373 t374 t375 t376 t377 t378 t379 _ A8.out).mono ?_
          rintro e w27 ⟨rfl, hb⟩
          refine ⟨_, rfl, ?_⟩
          have n0_ := Aside0.mk (blk_below (g := gb360) (o := .cells #[.int .i64 a0_0, .int .i64 a0_1, .int .i64 a0_2, .int .i64 a0_3, .int .i64 a0_4, .int .i64 a0_5] 36 (0, 0)) (by (with_reducible repeat (first | refine blk_drewN ?_ _ | refine blk_drew ?_ | refine blk_alloc ?_ _)); exact BK360.out) hb)
          have n1_ := Aside0.mk (blk_below (g := gb370) (o := .cells #[.bool t367, .string t368, .string t369] 54 (0, 0)) (by (with_reducible repeat (first | refine blk_drewN ?_ _ | refine blk_drew ?_ | refine blk_alloc ?_ _)); exact BK370.out) hb)
          have n2_ := Aside0.mk (blk_below (g := gb380) (o := .cells #[.bool false, .string (⟨#[]⟩ : ByteArray), .string (⟨#[]⟩ : ByteArray)] 54 (0, 0)) (by (with_reducible repeat (first | refine blk_drewN ?_ _ | refine blk_drew ?_ | refine blk_alloc ?_ _)); exact BK380.out) hb)
          have n3_ := Aside0.mk (below_step (by repeat (first | (with_reducible first | exact HB.out | apply below_alloc | apply pw_below_drewN | apply below_drew1 | refine below_set ?_ GE360.out | refine below_set ?_ GE370.out | refine below_set ?_ GE380.out) | exact HB.out)) hb)
          clear BK360
          clear BK370
          clear BK380
          clear HB
          have BK360 := n0_
          have BK370 := n1_
          have BK380 := n2_
          have HB := n3_
          clear n0_ n1_ n2_ n3_
          (try clear hb)
          (try clear hb2)
          (try clear hk)
          (try clear hi)
          refine hK.out _ _ ⟨(blk_cell BK360.out 0).trans rfl, (blk_cell BK360.out 1).trans rfl, (blk_cell BK360.out 2).trans rfl, (blk_cell BK360.out 3).trans rfl, (blk_cell BK360.out 4).trans rfl, (blk_cell BK360.out 5).trans rfl⟩ (fun hHeld => ?_)
          clear hK K
          refine norm_ (a' := ?_) ?_ ?_
          rotate_left
          · show Act.put _ (some 17) _ = _
            simp only [Act.put, List.setIfInBounds_toArray, List.set_cons_zero, List.set_cons_succ, i64_w, i32_w]
            rfl
          exact norm_ (by simp only [putAll, Act.put, List.setIfInBounds_toArray, List.set_cons_zero, List.set_cons_succ]) (hCont (gb380) _ ⟨hHeld, (by (with_reducible repeat (first | refine blk_drewN ?_ _ | refine blk_drew ?_ | refine blk_alloc ?_ _)); exact BK360.out), (by (with_reducible repeat (first | refine blk_drewN ?_ _ | refine blk_drew ?_ | refine blk_alloc ?_ _)); exact BK370.out), (by (with_reducible repeat (first | refine blk_drewN ?_ _ | refine blk_drew ?_ | refine blk_alloc ?_ _)); exact BK380.out), GW380.out, GE380.out, NB360_380.out, NB380_360.out, NB370_380.out, NB380_370.out, (by repeat (first | (with_reducible first | exact HB.out | apply below_alloc | apply pw_below_drewN | apply below_drew1 | refine below_set ?_ GE360.out | refine below_set ?_ GE370.out | refine below_set ?_ GE380.out) | exact HB.out))⟩)
      rintro gb380 w28 ⟨hS_, h0_, h1_, h2_, h3_, h4_, h5_, h6_, h7_, h8_, h9_⟩
      have n0_ : Aside0 (w28.heap[gb360]? = some (.cells #[.int .i64 a0_0, .int .i64 a0_1, .int .i64 a0_2, .int .i64 a0_3, .int .i64 a0_4, .int .i64 a0_5] 36 (0, 0))) := ⟨h0_⟩
      have n1_ : Aside0 (w28.heap[gb370]? = some (.cells #[.bool t367, .string t368, .string t369] 54 (0, 0))) := ⟨h1_⟩
      have n2_ : Aside0 (w28.heap[gb380]? = some (.cells #[.bool false, .string (⟨#[]⟩ : ByteArray), .string (⟨#[]⟩ : ByteArray)] 54 (0, 0))) := ⟨h2_⟩
      have n3_ : Aside0 (w.heap.size ≤ gb380) := ⟨h3_⟩
      have n4_ : Aside0 (w.heap.size ≤ gb380) := ⟨h4_⟩
      have n5_ : Aside0 (gb360 ≠ gb380) := ⟨h5_⟩
      have n6_ : Aside0 (gb380 ≠ gb360) := ⟨h6_⟩
      have n7_ : Aside0 (gb370 ≠ gb380) := ⟨h7_⟩
      have n8_ : Aside0 (gb380 ≠ gb370) := ⟨h8_⟩
      have n9_ : Aside0 (Below w.heap.size w w28) := ⟨h9_⟩
      clear BK360
      clear BK370
      clear HB
      clear h0_ h1_ h2_ h3_ h4_ h5_ h6_ h7_ h8_ h9_
      have BK360 := n0_
      have BK370 := n1_
      have BK380 := n2_
      have GW380 := n3_
      have GE380 := n4_
      have NB360_380 := n5_
      have NB380_360 := n6_
      have NB370_380 := n7_
      have NB380_370 := n8_
      have HB := n9_
      clear n0_ n1_ n2_ n3_ n4_ n5_ n6_ n7_ n8_ n9_
      have hHeld : w28.cell? ⟨gb360, 0, none⟩ = some (.int .i64 a0_0) ∧ w28.cell? ⟨gb360, 1, none⟩ = some (.int .i64 a0_1) ∧ w28.cell? ⟨gb360, 2, none⟩ = some (.int .i64 a0_2) ∧ w28.cell? ⟨gb360, 3, none⟩ = some (.int .i64 a0_3) ∧ w28.cell? ⟨gb360, 4, none⟩ = some (.int .i64 a0_4) ∧ w28.cell? ⟨gb360, 5, none⟩ = some (.int .i64 a0_5) := hS_
      refine norm_ (a' := ?_) ?_ ?_
      rotate_left
      · simp only [putAll, Act.put, List.setIfInBounds_toArray, List.set_cons_zero, List.set_cons_succ]
        rfl
      refine one_ (i := 6) (N := none) #[true, true, true, true, true, true, true] rfl rfl (by kernel_rfl) (by decide) (fun K hK => ?_)
      have hs29 : w28.cell? ⟨gb380, 0, none⟩ = some (.bool false) := (blk_cell BK380.out 0).trans rfl
      have hfs29 := blk_frozen BK380.out 0
      have hns29_0 := NB360_380.out
      have hns29_1 := NB370_380.out
      have hms29_0 := NB380_360.out
      have hms29_1 := NB380_370.out
      have hs30 : w28.cell? ⟨gb380, 1, none⟩ = some (.string (⟨#[]⟩ : ByteArray)) := (blk_cell BK380.out 1).trans rfl
      have hfs30 := blk_frozen BK380.out 1
      have hns30_0 := NB360_380.out
      have hns30_1 := NB370_380.out
      have hms30_0 := NB380_360.out
      have hms30_1 := NB380_370.out
      have hs31 : w28.cell? ⟨gb380, 2, none⟩ = some (.string (⟨#[]⟩ : ByteArray)) := (blk_cell BK380.out 2).trans rfl
      have hfs31 := blk_frozen BK380.out 2
      have hns31_0 := NB360_380.out
      have hns31_1 := NB370_380.out
      have hms31_0 := NB380_360.out
      have hms31_1 := NB380_370.out
      refine skip_ (w1 := ?_) (by rfl) rfl ?_ ?_
      rotate_left
      · go_simp
        rfl
      refine hK.out _ _ ⟨((cell_far (p := ⟨gb380, _, none⟩) NB360_380.out _).trans (((cell_far (p := ⟨gb380, _, none⟩) NB360_380.out _).trans (((cell_far (p := ⟨gb380, _, none⟩) NB360_380.out _).trans (hHeld.1)))))), ((cell_far (p := ⟨gb380, _, none⟩) NB360_380.out _).trans (((cell_far (p := ⟨gb380, _, none⟩) NB360_380.out _).trans (((cell_far (p := ⟨gb380, _, none⟩) NB360_380.out _).trans (hHeld.2.1)))))), ((cell_far (p := ⟨gb380, _, none⟩) NB360_380.out _).trans (((cell_far (p := ⟨gb380, _, none⟩) NB360_380.out _).trans (((cell_far (p := ⟨gb380, _, none⟩) NB360_380.out _).trans (hHeld.2.2.1)))))), ((cell_far (p := ⟨gb380, _, none⟩) NB360_380.out _).trans (((cell_far (p := ⟨gb380, _, none⟩) NB360_380.out _).trans (((cell_far (p := ⟨gb380, _, none⟩) NB360_380.out _).trans (hHeld.2.2.2.1)))))), ((cell_far (p := ⟨gb380, _, none⟩) NB360_380.out _).trans (((cell_far (p := ⟨gb380, _, none⟩) NB360_380.out _).trans (((cell_far (p := ⟨gb380, _, none⟩) NB360_380.out _).trans (hHeld.2.2.2.2.1)))))), ((cell_far (p := ⟨gb380, _, none⟩) NB360_380.out _).trans (((cell_far (p := ⟨gb380, _, none⟩) NB360_380.out _).trans (((cell_far (p := ⟨gb380, _, none⟩) NB360_380.out _).trans (hHeld.2.2.2.2.2))))))⟩ (fun hHeld => ?_)
      clear hK K
      refine done_ (by kernel_rfl) ?_
      have hnb32 := NB370_360.out
      have hnc32 := NB360_370.out
      have hnb33 := NB370_380.out
      have hnc33 := NB380_370.out
      have hcz34_0 : w28.cell? ⟨gb370, 0, none⟩ = some (.bool t367) := (blk_cell BK370.out 0).trans rfl
      have hcz34_1 : w28.cell? ⟨gb370, 1, none⟩ = some (.string t368) := (blk_cell BK370.out 1).trans rfl
      have hcz34_2 : w28.cell? ⟨gb370, 2, none⟩ = some (.string t369) := (blk_cell BK370.out 2).trans rfl
      have hfz34_0 := blk_frozen BK370.out 0
      have hfz34_1 := blk_frozen BK370.out 1
      have hfz34_2 := blk_frozen BK370.out 2
      have hnb35 := NB380_360.out
      have hnc35 := NB360_380.out
      have hcz36_0 : w28.cell? ⟨gb380, 0, none⟩ = some (.bool false) := (blk_cell BK380.out 0).trans rfl
      have hcz36_1 : w28.cell? ⟨gb380, 1, none⟩ = some (.string (⟨#[]⟩ : ByteArray)) := (blk_cell BK380.out 1).trans rfl
      have hcz36_2 : w28.cell? ⟨gb380, 2, none⟩ = some (.string (⟨#[]⟩ : ByteArray)) := (blk_cell BK380.out 2).trans rfl
      have hfz36_0 := blk_frozen BK380.out 0
      have hfz36_1 := blk_frozen BK380.out 1
      have hfz36_2 := blk_frozen BK380.out 2
      try go_wp2_with (first | ((with_reducible refine gate_callee (f := 25) rfl ?_); refine goesL_ (some 20) rfl rfl Try.func25 (by kernel_rfl) rfl #[.agg #[.bool t367, .string t368, .string t369], .agg #[.bool t377, .string t378, .string t379]] rfl (by (try simp only [List.map_toArray, List.map_cons, List.map_nil]); first | done | rfl | (simp only [List.length_drop, List.length_take]; rfl)) ?_; (with_reducible refine (insolvencyref1_Less.calls k t367 t368 t369 t377 t378 t379 true _ A9.out).mono ?_); rintro e w37 ⟨rfl, hb⟩; refine ⟨_, rfl, ?_⟩; have n0_ := Aside0.mk (blk_below (g := gb360) (o := .cells #[.int .i64 a0_0, .int .i64 a0_1, .int .i64 a0_2, .int .i64 a0_3, .int .i64 a0_4, .int .i64 a0_5] 36 (0, 0)) (by (with_reducible repeat (first | refine blk_drewN ?_ _ | refine blk_drew ?_ | refine blk_alloc ?_ _)); refine blk_far ?_ NB360_380.out _; (with_reducible repeat (first | refine blk_drewN ?_ _ | refine blk_drew ?_ | refine blk_alloc ?_ _)); refine blk_far ?_ NB360_380.out _; (with_reducible repeat (first | refine blk_drewN ?_ _ | refine blk_drew ?_ | refine blk_alloc ?_ _)); refine blk_far ?_ NB360_380.out _; (with_reducible repeat (first | refine blk_drewN ?_ _ | refine blk_drew ?_ | refine blk_alloc ?_ _)); exact BK360.out) hb); have n1_ := Aside0.mk (blk_below (g := gb370) (o := .cells #[.bool t367, .string t368, .string t369] 54 (0, 0)) (by (with_reducible repeat (first | refine blk_drewN ?_ _ | refine blk_drew ?_ | refine blk_alloc ?_ _)); refine blk_far ?_ NB370_380.out _; (with_reducible repeat (first | refine blk_drewN ?_ _ | refine blk_drew ?_ | refine blk_alloc ?_ _)); refine blk_far ?_ NB370_380.out _; (with_reducible repeat (first | refine blk_drewN ?_ _ | refine blk_drew ?_ | refine blk_alloc ?_ _)); refine blk_far ?_ NB370_380.out _; (with_reducible repeat (first | refine blk_drewN ?_ _ | refine blk_drew ?_ | refine blk_alloc ?_ _)); exact BK370.out) hb); have n2_ := Aside0.mk (blk_below (g := gb380) (o := .cells #[.bool t377, .string t378, .string t379] 54 (0, 0)) (by (with_reducible repeat (first | refine blk_drewN ?_ _ | refine blk_drew ?_ | refine blk_alloc ?_ _)); refine blk_put (cs := #[.bool t377, .string t378, .string (⟨#[]⟩ : ByteArray)]) ?_ 2 _ rfl; (with_reducible repeat (first | refine blk_drewN ?_ _ | refine blk_drew ?_ | refine blk_alloc ?_ _)); refine blk_put (cs := #[.bool t377, .string (⟨#[]⟩ : ByteArray), .string (⟨#[]⟩ : ByteArray)]) ?_ 1 _ rfl; (with_reducible repeat (first | refine blk_drewN ?_ _ | refine blk_drew ?_ | refine blk_alloc ?_ _)); refine blk_put (cs := #[.bool false, .string (⟨#[]⟩ : ByteArray), .string (⟨#[]⟩ : ByteArray)]) ?_ 0 _ rfl; (with_reducible repeat (first | refine blk_drewN ?_ _ | refine blk_drew ?_ | refine blk_alloc ?_ _)); exact BK380.out) hb); have n3_ := Aside0.mk (below_step (by repeat (first | (with_reducible first | exact HB.out | apply below_alloc | apply pw_below_drewN | apply below_drew1 | refine below_set ?_ GE360.out | refine below_set ?_ GE370.out | refine below_set ?_ GE380.out) | exact HB.out)) hb); clear BK360; clear BK370; clear BK380; clear HB; have BK360 := n0_; have BK370 := n1_; have BK380 := n2_; have HB := n3_; clear n0_ n1_ n2_ n3_; (try clear hb); (try clear hb2); (try clear hk); (try clear hi); have hcz38_0 : w37.cell? ⟨gb360, 0, none⟩ = some (.int .i64 a0_0) := (blk_cell BK360.out 0).trans rfl; have hcz38_1 : w37.cell? ⟨gb360, 1, none⟩ = some (.int .i64 a0_1) := (blk_cell BK360.out 1).trans rfl; have hcz38_2 : w37.cell? ⟨gb360, 2, none⟩ = some (.int .i64 a0_2) := (blk_cell BK360.out 2).trans rfl; have hcz38_3 : w37.cell? ⟨gb360, 3, none⟩ = some (.int .i64 a0_3) := (blk_cell BK360.out 3).trans rfl; have hcz38_4 : w37.cell? ⟨gb360, 4, none⟩ = some (.int .i64 a0_4) := (blk_cell BK360.out 4).trans rfl; have hcz38_5 : w37.cell? ⟨gb360, 5, none⟩ = some (.int .i64 a0_5) := (blk_cell BK360.out 5).trans rfl; have hfz38_0 := blk_frozen BK360.out 0; have hfz38_1 := blk_frozen BK360.out 1; have hfz38_2 := blk_frozen BK360.out 2; have hfz38_3 := blk_frozen BK360.out 3; have hfz38_4 := blk_frozen BK360.out 4; have hfz38_5 := blk_frozen BK360.out 5))
      go_ret
      exact ⟨by first | rfl | (simp [errW_none, errW_some] <;> rfl) | (simp [*, errW_none, errW_some] <;> rfl), by repeat (first | (with_reducible first | exact HB.out | apply below_alloc | apply pw_below_drewN | apply below_drew1 | refine below_set ?_ GE360.out | refine below_set ?_ GE370.out | refine below_set ?_ GE380.out) | exact HB.out)⟩
    · replace c10 := Bool.eq_false_iff.mpr c10
      subst c10
      have H1 : (some 0) = some r := by rw [if_neg (show ¬ (false = true) by decide)] at H; exact H
      clear H
      have H := H1
      clear H1
      obtain rfl := Option.some.inj H
      go_enter Try.func16, Try.ntmps16
      try go_wp2_with (first | ((with_reducible refine gate_dst (N := 1) rfl ?_); refine box_event ?hg (N := 1) ?hd (cs := #[.int .i64 a0_0, .int .i64 a0_1, .int .i64 a0_2, .int .i64 a0_3, .int .i64 a0_4, .int .i64 a0_5]) (t := 36) ?hr ?_; (case hd => rfl); (case hg => rfl); (case hr => first | (go_simp; done) | (go_simp; rfl)); intro gb360 hg w39 hbox hb; have n0_ := Aside0.mk (below_step (by repeat (first | (with_reducible first | exact HB.out | apply below_alloc | apply pw_below_drewN | apply below_drew1) | exact HB.out)) hb); have n1_ := Aside0.mk (hbox); have n2_ := Aside0.mk ((by rw [hg]; exact (below_size (by repeat (first | (with_reducible first | exact HB.out | apply below_alloc | apply pw_below_drewN | apply below_drew1) | exact HB.out))) : w.heap.size ≤ gb360)); have n3_ := Aside0.mk ((by rw [hg]; exact (below_size (by repeat (first | (with_reducible first | exact HB.out | apply below_alloc | apply pw_below_drewN | apply below_drew1) | exact HB.out))) : w.heap.size ≤ gb360)); clear HB; have HB := n0_; have BK360 := n1_; have GW360 := n2_; have GE360 := n3_; clear n0_ n1_ n2_ n3_; clear hb hbox hg; have hcz40_0 : w39.cell? ⟨gb360, 0, none⟩ = some (.int .i64 a0_0) := (blk_cell BK360.out 0).trans rfl; have hcz40_1 : w39.cell? ⟨gb360, 1, none⟩ = some (.int .i64 a0_1) := (blk_cell BK360.out 1).trans rfl; have hcz40_2 : w39.cell? ⟨gb360, 2, none⟩ = some (.int .i64 a0_2) := (blk_cell BK360.out 2).trans rfl; have hcz40_3 : w39.cell? ⟨gb360, 3, none⟩ = some (.int .i64 a0_3) := (blk_cell BK360.out 3).trans rfl; have hcz40_4 : w39.cell? ⟨gb360, 4, none⟩ = some (.int .i64 a0_4) := (blk_cell BK360.out 4).trans rfl; have hcz40_5 : w39.cell? ⟨gb360, 5, none⟩ = some (.int .i64 a0_5) := (blk_cell BK360.out 5).trans rfl; have hfz40_0 := blk_frozen BK360.out 0; have hfz40_1 := blk_frozen BK360.out 1; have hfz40_2 := blk_frozen BK360.out 2; have hfz40_3 := blk_frozen BK360.out 3; have hfz40_4 := blk_frozen BK360.out 4; have hfz40_5 := blk_frozen BK360.out 5))
      have n0_ := Aside0.mk (blk_drew BK360.out)
      have n1_ := Aside0.mk (below_drew1 HB.out)
      clear BK360
      clear HB
      have BK360 := n0_
      have HB := n1_
      clear n0_ n1_
      refine start_ (n := 7) (S := fun w' => w'.cell? ⟨gb360, 0, none⟩ = some (.int .i64 a0_0) ∧ w'.cell? ⟨gb360, 1, none⟩ = some (.int .i64 a0_1) ∧ w'.cell? ⟨gb360, 2, none⟩ = some (.int .i64 a0_2) ∧ w'.cell? ⟨gb360, 3, none⟩ = some (.int .i64 a0_3) ∧ w'.cell? ⟨gb360, 4, none⟩ = some (.int .i64 a0_4) ∧ w'.cell? ⟨gb360, 5, none⟩ = some (.int .i64 a0_5)) (ds := []) #[false, false, false, false, false, false, false] (by kernel_rfl) rfl rfl ⟨(blk_cell BK360.out 0).trans rfl, (blk_cell BK360.out 1).trans rfl, (blk_cell BK360.out 2).trans rfl, (blk_cell BK360.out 3).trans rfl, (blk_cell BK360.out 4).trans rfl, (blk_cell BK360.out 5).trans rfl⟩ (fun hHeld => ?_)
      generalize w39.drew = w41 at BK360 HB hHeld ⊢
      refine pure_ (i := 1) (N := some 9) (v := ?_) (a' := ?_) #[false, true, false, false, false, false, false] rfl rfl (by kernel_rfl) (fun _ _ _ h => h) (Or.inl ⟨by rfl, ?_⟩) ?_ ?_
      rotate_left
      · intro w'
        go_simp
        with_reducible rfl
      rotate_left
      · simp only [Act.put, List.setIfInBounds_toArray, List.set_cons_zero, List.set_cons_succ, i64_w, i32_w]
        rfl
      refine take_ (i := 2) (N := some 10) (v := ?_) (a' := ?_) #[false, true, true, false, false, false, false] rfl rfl (by kernel_rfl) (fun _ _ _ h => h) (Or.inl ⟨by rfl, ?_⟩) hHeld ?_ ?_
      rotate_left
      · rintro w' ⟨s0, s1, s2, s3, s4, s5⟩
        go_simp
        with_reducible rfl
      rotate_left
      · simp only [Act.put, List.setIfInBounds_toArray, List.set_cons_zero, List.set_cons_succ, i64_w, i32_w]
        rfl
      refine join_ (σ := Nat) 1 #[true, true, true, true, true, true, false] (fun s_ => [(8, .agg #[.bool t361, .string t362, .string t363]), (11, .agg #[.bool t364, .string t365, .string t366]), (12, .agg #[.bool t367, .string t368, .string t369]), (3, .pointer (some ⟨s_, 0, none⟩))]) (fun s_ w' => (w'.cell? ⟨gb360, 0, none⟩ = some (.int .i64 a0_0) ∧ w'.cell? ⟨gb360, 1, none⟩ = some (.int .i64 a0_1) ∧ w'.cell? ⟨gb360, 2, none⟩ = some (.int .i64 a0_2) ∧ w'.cell? ⟨gb360, 3, none⟩ = some (.int .i64 a0_3) ∧ w'.cell? ⟨gb360, 4, none⟩ = some (.int .i64 a0_4) ∧ w'.cell? ⟨gb360, 5, none⟩ = some (.int .i64 a0_5)) ∧ (w'.heap[gb360]? = some (.cells #[.int .i64 a0_0, .int .i64 a0_1, .int .i64 a0_2, .int .i64 a0_3, .int .i64 a0_4, .int .i64 a0_5] 36 (0, 0))) ∧ (w'.heap[s_]? = some (.cells #[.bool false, .string (⟨#[]⟩ : ByteArray), .string (⟨#[]⟩ : ByteArray)] 54 (0, 0))) ∧ (w.heap.size ≤ s_) ∧ (w.heap.size ≤ s_) ∧ (gb360 ≠ s_) ∧ (s_ ≠ gb360) ∧ (Below w.heap.size w w')) ?_ ?_
      rotate_left
      · intro hCont
        refine two_ (i := 0) (j := 5) (Ni := some 8) (Nj := some 3) #[true, true, true, false, false, false, false] #[false, true, true, false, false, true, false] rfl rfl rfl rfl (by kernel_rfl) (by decide) (by decide) (fun K hK => ?_) (fun K hK => ?_)
        · skip
          refine goes_ Try.func24 (by kernel_rfl) rfl #[.int .i64 10] (by rfl) rfl rfl (by (try simp only [List.map_toArray, List.map_cons, List.map_nil]); first | done | rfl | (simp only [List.length_drop, List.length_take]; rfl)) ?_
          with_reducible refine (insolvencyref1_Int.calls k 10 t361 t362 t363 _ A3.out).mono ?_
          rintro e w42 ⟨rfl, hb⟩
          refine ⟨_, rfl, ?_⟩
          have n0_ := Aside0.mk (blk_below (g := gb360) (o := .cells #[.int .i64 a0_0, .int .i64 a0_1, .int .i64 a0_2, .int .i64 a0_3, .int .i64 a0_4, .int .i64 a0_5] 36 (0, 0)) (by (with_reducible repeat (first | refine blk_drewN ?_ _ | refine blk_drew ?_ | refine blk_alloc ?_ _)); exact BK360.out) hb)
          have n1_ := Aside0.mk (below_step (by repeat (first | (with_reducible first | exact HB.out | apply below_alloc | apply pw_below_drewN | apply below_drew1 | refine below_set ?_ GE360.out) | exact HB.out)) hb)
          clear BK360
          clear HB
          have BK360 := n0_
          have HB := n1_
          clear n0_ n1_
          (try clear hb)
          (try clear hb2)
          (try clear hk)
          (try clear hi)
          refine hK.out _ _ ⟨(blk_cell BK360.out 0).trans rfl, (blk_cell BK360.out 1).trans rfl, (blk_cell BK360.out 2).trans rfl, (blk_cell BK360.out 3).trans rfl, (blk_cell BK360.out 4).trans rfl, (blk_cell BK360.out 5).trans rfl⟩ (fun hHeld => ?_)
          clear hK K
          refine norm_ (a' := ?_) ?_ ?_
          rotate_left
          · show Act.put _ (some 8) _ = _
            simp only [Act.put, List.setIfInBounds_toArray, List.set_cons_zero, List.set_cons_succ, i64_w, i32_w]
            rfl
          refine two_ (i := 3) (j := 5) (Ni := some 11) (Nj := some 3) #[true, true, true, true, false, false, false] #[true, true, true, false, false, true, false] rfl rfl rfl rfl (by kernel_rfl) (by decide) (by decide) (fun K hK => ?_) (fun K hK => ?_)
          · skip
            refine goes_ Try.func24 (by kernel_rfl) rfl #[.int .i64 a0_4] (by rfl) rfl rfl (by (try simp only [List.map_toArray, List.map_cons, List.map_nil]); first | done | rfl | (simp only [List.length_drop, List.length_take]; rfl)) ?_
            with_reducible refine (insolvencyref1_Int.calls k a0_4 t364 t365 t366 _ A4.out).mono ?_
            rintro e w43 ⟨rfl, hb⟩
            refine ⟨_, rfl, ?_⟩
            have n0_ := Aside0.mk (blk_below (g := gb360) (o := .cells #[.int .i64 a0_0, .int .i64 a0_1, .int .i64 a0_2, .int .i64 a0_3, .int .i64 a0_4, .int .i64 a0_5] 36 (0, 0)) (by (with_reducible repeat (first | refine blk_drewN ?_ _ | refine blk_drew ?_ | refine blk_alloc ?_ _)); exact BK360.out) hb)
            have n1_ := Aside0.mk (below_step (by repeat (first | (with_reducible first | exact HB.out | apply below_alloc | apply pw_below_drewN | apply below_drew1 | refine below_set ?_ GE360.out) | exact HB.out)) hb)
            clear BK360
            clear HB
            have BK360 := n0_
            have HB := n1_
            clear n0_ n1_
            (try clear hb)
            (try clear hb2)
            (try clear hk)
            (try clear hi)
            refine hK.out _ _ ⟨(blk_cell BK360.out 0).trans rfl, (blk_cell BK360.out 1).trans rfl, (blk_cell BK360.out 2).trans rfl, (blk_cell BK360.out 3).trans rfl, (blk_cell BK360.out 4).trans rfl, (blk_cell BK360.out 5).trans rfl⟩ (fun hHeld => ?_)
            clear hK K
            refine norm_ (a' := ?_) ?_ ?_
            rotate_left
            · show Act.put _ (some 11) _ = _
              simp only [Act.put, List.setIfInBounds_toArray, List.set_cons_zero, List.set_cons_succ, i64_w, i32_w]
              rfl
            refine two_ (i := 4) (j := 5) (Ni := some 12) (Nj := some 3) #[true, true, true, true, true, false, false] #[true, true, true, true, false, true, false] rfl rfl rfl rfl (by kernel_rfl) (by decide) (by decide) (fun K hK => ?_) (fun K hK => ?_)
            · skip
              refine goes_ Try.func23 (by kernel_rfl) rfl #[.agg #[.bool t361, .string t362, .string t363], .agg #[.bool t364, .string t365, .string t366]] (by rfl) rfl rfl (by (try simp only [List.map_toArray, List.map_cons, List.map_nil]); first | done | rfl | (simp only [List.length_drop, List.length_take]; rfl)) ?_
              with_reducible refine (insolvencyref1_Times.calls k t361 t362 t363 t364 t365 t366 t367 t368 t369 _ A5.out).mono ?_
              rintro e w44 ⟨rfl, hb⟩
              refine ⟨_, rfl, ?_⟩
              have n0_ := Aside0.mk (blk_below (g := gb360) (o := .cells #[.int .i64 a0_0, .int .i64 a0_1, .int .i64 a0_2, .int .i64 a0_3, .int .i64 a0_4, .int .i64 a0_5] 36 (0, 0)) (by (with_reducible repeat (first | refine blk_drewN ?_ _ | refine blk_drew ?_ | refine blk_alloc ?_ _)); exact BK360.out) hb)
              have n1_ := Aside0.mk (below_step (by repeat (first | (with_reducible first | exact HB.out | apply below_alloc | apply pw_below_drewN | apply below_drew1 | refine below_set ?_ GE360.out) | exact HB.out)) hb)
              clear BK360
              clear HB
              have BK360 := n0_
              have HB := n1_
              clear n0_ n1_
              (try clear hb)
              (try clear hb2)
              (try clear hk)
              (try clear hi)
              refine hK.out _ _ ⟨(blk_cell BK360.out 0).trans rfl, (blk_cell BK360.out 1).trans rfl, (blk_cell BK360.out 2).trans rfl, (blk_cell BK360.out 3).trans rfl, (blk_cell BK360.out 4).trans rfl, (blk_cell BK360.out 5).trans rfl⟩ (fun hHeld => ?_)
              clear hK K
              refine norm_ (a' := ?_) ?_ ?_
              rotate_left
              · show Act.put _ (some 12) _ = _
                simp only [Act.put, List.setIfInBounds_toArray, List.set_cons_zero, List.set_cons_succ, i64_w, i32_w]
                rfl
              refine one_ (i := 5) (N := some 3) #[true, true, true, true, true, true, false] rfl rfl (by kernel_rfl) (by decide) (fun K hK => ?_)
              refine box_step ?hg (N := 3) ?hd (cs := #[.bool false, .string (⟨#[]⟩ : ByteArray), .string (⟨#[]⟩ : ByteArray)]) (t := 54) ?hr ?_; (case hd => rfl); (case hg => rfl); (case hr => first | (go_simp; done) | (go_simp; rfl))
              intro gb370 hg w45 hbox hb
              have n0_ := Aside0.mk (blk_below (g := gb360) (o := .cells #[.int .i64 a0_0, .int .i64 a0_1, .int .i64 a0_2, .int .i64 a0_3, .int .i64 a0_4, .int .i64 a0_5] 36 (0, 0)) (by (with_reducible repeat (first | refine blk_drewN ?_ _ | refine blk_drew ?_ | refine blk_alloc ?_ _)); exact BK360.out) hb)
              have n1_ := Aside0.mk (below_step (by repeat (first | (with_reducible first | exact HB.out | apply below_alloc | apply pw_below_drewN | apply below_drew1 | refine below_set ?_ GE360.out) | exact HB.out)) hb)
              have n2_ := Aside0.mk (hbox)
              have n3_ := Aside0.mk ((by rw [hg]; exact (below_size (by repeat (first | (with_reducible first | exact HB.out | apply below_alloc | apply pw_below_drewN | apply below_drew1 | refine below_set ?_ GE360.out) | exact HB.out))) : w.heap.size ≤ gb370))
              have n4_ := Aside0.mk ((by rw [hg]; exact (below_size (by repeat (first | (with_reducible first | exact HB.out | apply below_alloc | apply pw_below_drewN | apply below_drew1 | refine below_set ?_ GE360.out) | exact HB.out))) : w.heap.size ≤ gb370))
              have n5_ := Aside0.mk ((by rw [hg]; exact Nat.ne_of_lt (blk_lt (g := gb360) (o := .cells #[.int .i64 a0_0, .int .i64 a0_1, .int .i64 a0_2, .int .i64 a0_3, .int .i64 a0_4, .int .i64 a0_5] 36 (0, 0)) (by (with_reducible repeat (first | refine blk_drewN ?_ _ | refine blk_drew ?_ | refine blk_alloc ?_ _)); exact BK360.out)) : gb360 ≠ gb370))
              have n6_ := Aside0.mk ((by rw [hg]; exact Nat.ne_of_gt (blk_lt (g := gb360) (o := .cells #[.int .i64 a0_0, .int .i64 a0_1, .int .i64 a0_2, .int .i64 a0_3, .int .i64 a0_4, .int .i64 a0_5] 36 (0, 0)) (by (with_reducible repeat (first | refine blk_drewN ?_ _ | refine blk_drew ?_ | refine blk_alloc ?_ _)); exact BK360.out)) : gb370 ≠ gb360))
              clear BK360
              clear HB
              have BK360 := n0_
              have HB := n1_
              have BK370 := n2_
              have GW370 := n3_
              have GE370 := n4_
              have NB360_370 := n5_
              have NB370_360 := n6_
              clear n0_ n1_ n2_ n3_ n4_ n5_ n6_
              clear hb hbox hg
              refine hK.out _ _ ⟨(blk_cell BK360.out 0).trans rfl, (blk_cell BK360.out 1).trans rfl, (blk_cell BK360.out 2).trans rfl, (blk_cell BK360.out 3).trans rfl, (blk_cell BK360.out 4).trans rfl, (blk_cell BK360.out 5).trans rfl⟩ (fun hHeld => ?_)
              clear hK K
              refine norm_ (a' := ?_) ?_ ?_
              rotate_left
              · show Act.put _ (some 3) _ = _
                simp only [Act.put, List.setIfInBounds_toArray, List.set_cons_zero, List.set_cons_succ, i64_w, i32_w]
                rfl
              exact norm_ (by simp only [putAll, Act.put, List.setIfInBounds_toArray, List.set_cons_zero, List.set_cons_succ]) (hCont (gb370) _ ⟨hHeld, (by (with_reducible repeat (first | refine blk_drewN ?_ _ | refine blk_drew ?_ | refine blk_alloc ?_ _)); exact BK360.out), (by (with_reducible repeat (first | refine blk_drewN ?_ _ | refine blk_drew ?_ | refine blk_alloc ?_ _)); exact BK370.out), GW370.out, GE370.out, NB360_370.out, NB370_360.out, (by repeat (first | (with_reducible first | exact HB.out | apply below_alloc | apply pw_below_drewN | apply below_drew1 | refine below_set ?_ GE360.out | refine below_set ?_ GE370.out) | exact HB.out))⟩)
            · skip
              refine box_step ?hg (N := 3) ?hd (cs := #[.bool false, .string (⟨#[]⟩ : ByteArray), .string (⟨#[]⟩ : ByteArray)]) (t := 54) ?hr ?_; (case hd => rfl); (case hg => rfl); (case hr => first | (go_simp; done) | (go_simp; rfl))
              intro gb370 hg w44 hbox hb
              have n0_ := Aside0.mk (blk_below (g := gb360) (o := .cells #[.int .i64 a0_0, .int .i64 a0_1, .int .i64 a0_2, .int .i64 a0_3, .int .i64 a0_4, .int .i64 a0_5] 36 (0, 0)) (by (with_reducible repeat (first | refine blk_drewN ?_ _ | refine blk_drew ?_ | refine blk_alloc ?_ _)); exact BK360.out) hb)
              have n1_ := Aside0.mk (below_step (by repeat (first | (with_reducible first | exact HB.out | apply below_alloc | apply pw_below_drewN | apply below_drew1 | refine below_set ?_ GE360.out) | exact HB.out)) hb)
              have n2_ := Aside0.mk (hbox)
              have n3_ := Aside0.mk ((by rw [hg]; exact (below_size (by repeat (first | (with_reducible first | exact HB.out | apply below_alloc | apply pw_below_drewN | apply below_drew1 | refine below_set ?_ GE360.out) | exact HB.out))) : w.heap.size ≤ gb370))
              have n4_ := Aside0.mk ((by rw [hg]; exact (below_size (by repeat (first | (with_reducible first | exact HB.out | apply below_alloc | apply pw_below_drewN | apply below_drew1 | refine below_set ?_ GE360.out) | exact HB.out))) : w.heap.size ≤ gb370))
              have n5_ := Aside0.mk ((by rw [hg]; exact Nat.ne_of_lt (blk_lt (g := gb360) (o := .cells #[.int .i64 a0_0, .int .i64 a0_1, .int .i64 a0_2, .int .i64 a0_3, .int .i64 a0_4, .int .i64 a0_5] 36 (0, 0)) (by (with_reducible repeat (first | refine blk_drewN ?_ _ | refine blk_drew ?_ | refine blk_alloc ?_ _)); exact BK360.out)) : gb360 ≠ gb370))
              have n6_ := Aside0.mk ((by rw [hg]; exact Nat.ne_of_gt (blk_lt (g := gb360) (o := .cells #[.int .i64 a0_0, .int .i64 a0_1, .int .i64 a0_2, .int .i64 a0_3, .int .i64 a0_4, .int .i64 a0_5] 36 (0, 0)) (by (with_reducible repeat (first | refine blk_drewN ?_ _ | refine blk_drew ?_ | refine blk_alloc ?_ _)); exact BK360.out)) : gb370 ≠ gb360))
              clear BK360
              clear HB
              have BK360 := n0_
              have HB := n1_
              have BK370 := n2_
              have GW370 := n3_
              have GE370 := n4_
              have NB360_370 := n5_
              have NB370_360 := n6_
              clear n0_ n1_ n2_ n3_ n4_ n5_ n6_
              clear hb hbox hg
              refine hK.out _ _ ⟨(blk_cell BK360.out 0).trans rfl, (blk_cell BK360.out 1).trans rfl, (blk_cell BK360.out 2).trans rfl, (blk_cell BK360.out 3).trans rfl, (blk_cell BK360.out 4).trans rfl, (blk_cell BK360.out 5).trans rfl⟩ (fun hHeld => ?_)
              clear hK K
              refine norm_ (a' := ?_) ?_ ?_
              rotate_left
              · show Act.put _ (some 3) _ = _
                simp only [Act.put, List.setIfInBounds_toArray, List.set_cons_zero, List.set_cons_succ, i64_w, i32_w]
                rfl
              refine one_ (i := 4) (N := some 12) #[true, true, true, true, true, true, false] rfl rfl (by kernel_rfl) (by decide) (fun K hK => ?_)
              refine goes_ Try.func23 (by kernel_rfl) rfl #[.agg #[.bool t361, .string t362, .string t363], .agg #[.bool t364, .string t365, .string t366]] (by rfl) rfl rfl (by (try simp only [List.map_toArray, List.map_cons, List.map_nil]); first | done | rfl | (simp only [List.length_drop, List.length_take]; rfl)) ?_
              with_reducible refine (insolvencyref1_Times.calls k t361 t362 t363 t364 t365 t366 t367 t368 t369 _ A5.out).mono ?_
              rintro e w45 ⟨rfl, hb⟩
              refine ⟨_, rfl, ?_⟩
              have n0_ := Aside0.mk (blk_below (g := gb360) (o := .cells #[.int .i64 a0_0, .int .i64 a0_1, .int .i64 a0_2, .int .i64 a0_3, .int .i64 a0_4, .int .i64 a0_5] 36 (0, 0)) (by (with_reducible repeat (first | refine blk_drewN ?_ _ | refine blk_drew ?_ | refine blk_alloc ?_ _)); exact BK360.out) hb)
              have n1_ := Aside0.mk (blk_below (g := gb370) (o := .cells #[.bool false, .string (⟨#[]⟩ : ByteArray), .string (⟨#[]⟩ : ByteArray)] 54 (0, 0)) (by (with_reducible repeat (first | refine blk_drewN ?_ _ | refine blk_drew ?_ | refine blk_alloc ?_ _)); exact BK370.out) hb)
              have n2_ := Aside0.mk (below_step (by repeat (first | (with_reducible first | exact HB.out | apply below_alloc | apply pw_below_drewN | apply below_drew1 | refine below_set ?_ GE360.out | refine below_set ?_ GE370.out) | exact HB.out)) hb)
              clear BK360
              clear BK370
              clear HB
              have BK360 := n0_
              have BK370 := n1_
              have HB := n2_
              clear n0_ n1_ n2_
              (try clear hb)
              (try clear hb2)
              (try clear hk)
              (try clear hi)
              refine hK.out _ _ ⟨(blk_cell BK360.out 0).trans rfl, (blk_cell BK360.out 1).trans rfl, (blk_cell BK360.out 2).trans rfl, (blk_cell BK360.out 3).trans rfl, (blk_cell BK360.out 4).trans rfl, (blk_cell BK360.out 5).trans rfl⟩ (fun hHeld => ?_)
              clear hK K
              refine norm_ (a' := ?_) ?_ ?_
              rotate_left
              · show Act.put _ (some 12) _ = _
                simp only [Act.put, List.setIfInBounds_toArray, List.set_cons_zero, List.set_cons_succ, i64_w, i32_w]
                rfl
              exact norm_ (by simp only [putAll, Act.put, List.setIfInBounds_toArray, List.set_cons_zero, List.set_cons_succ]) (hCont (gb370) _ ⟨hHeld, (by (with_reducible repeat (first | refine blk_drewN ?_ _ | refine blk_drew ?_ | refine blk_alloc ?_ _)); exact BK360.out), (by (with_reducible repeat (first | refine blk_drewN ?_ _ | refine blk_drew ?_ | refine blk_alloc ?_ _)); exact BK370.out), GW370.out, GE370.out, NB360_370.out, NB370_360.out, (by repeat (first | (with_reducible first | exact HB.out | apply below_alloc | apply pw_below_drewN | apply below_drew1 | refine below_set ?_ GE360.out | refine below_set ?_ GE370.out) | exact HB.out))⟩)
          · skip
            refine box_step ?hg (N := 3) ?hd (cs := #[.bool false, .string (⟨#[]⟩ : ByteArray), .string (⟨#[]⟩ : ByteArray)]) (t := 54) ?hr ?_; (case hd => rfl); (case hg => rfl); (case hr => first | (go_simp; done) | (go_simp; rfl))
            intro gb370 hg w43 hbox hb
            have n0_ := Aside0.mk (blk_below (g := gb360) (o := .cells #[.int .i64 a0_0, .int .i64 a0_1, .int .i64 a0_2, .int .i64 a0_3, .int .i64 a0_4, .int .i64 a0_5] 36 (0, 0)) (by (with_reducible repeat (first | refine blk_drewN ?_ _ | refine blk_drew ?_ | refine blk_alloc ?_ _)); exact BK360.out) hb)
            have n1_ := Aside0.mk (below_step (by repeat (first | (with_reducible first | exact HB.out | apply below_alloc | apply pw_below_drewN | apply below_drew1 | refine below_set ?_ GE360.out) | exact HB.out)) hb)
            have n2_ := Aside0.mk (hbox)
            have n3_ := Aside0.mk ((by rw [hg]; exact (below_size (by repeat (first | (with_reducible first | exact HB.out | apply below_alloc | apply pw_below_drewN | apply below_drew1 | refine below_set ?_ GE360.out) | exact HB.out))) : w.heap.size ≤ gb370))
            have n4_ := Aside0.mk ((by rw [hg]; exact (below_size (by repeat (first | (with_reducible first | exact HB.out | apply below_alloc | apply pw_below_drewN | apply below_drew1 | refine below_set ?_ GE360.out) | exact HB.out))) : w.heap.size ≤ gb370))
            have n5_ := Aside0.mk ((by rw [hg]; exact Nat.ne_of_lt (blk_lt (g := gb360) (o := .cells #[.int .i64 a0_0, .int .i64 a0_1, .int .i64 a0_2, .int .i64 a0_3, .int .i64 a0_4, .int .i64 a0_5] 36 (0, 0)) (by (with_reducible repeat (first | refine blk_drewN ?_ _ | refine blk_drew ?_ | refine blk_alloc ?_ _)); exact BK360.out)) : gb360 ≠ gb370))
            have n6_ := Aside0.mk ((by rw [hg]; exact Nat.ne_of_gt (blk_lt (g := gb360) (o := .cells #[.int .i64 a0_0, .int .i64 a0_1, .int .i64 a0_2, .int .i64 a0_3, .int .i64 a0_4, .int .i64 a0_5] 36 (0, 0)) (by (with_reducible repeat (first | refine blk_drewN ?_ _ | refine blk_drew ?_ | refine blk_alloc ?_ _)); exact BK360.out)) : gb370 ≠ gb360))
            clear BK360
            clear HB
            have BK360 := n0_
            have HB := n1_
            have BK370 := n2_
            have GW370 := n3_
            have GE370 := n4_
            have NB360_370 := n5_
            have NB370_360 := n6_
            clear n0_ n1_ n2_ n3_ n4_ n5_ n6_
            clear hb hbox hg
            refine hK.out _ _ ⟨(blk_cell BK360.out 0).trans rfl, (blk_cell BK360.out 1).trans rfl, (blk_cell BK360.out 2).trans rfl, (blk_cell BK360.out 3).trans rfl, (blk_cell BK360.out 4).trans rfl, (blk_cell BK360.out 5).trans rfl⟩ (fun hHeld => ?_)
            clear hK K
            refine norm_ (a' := ?_) ?_ ?_
            rotate_left
            · show Act.put _ (some 3) _ = _
              simp only [Act.put, List.setIfInBounds_toArray, List.set_cons_zero, List.set_cons_succ, i64_w, i32_w]
              rfl
            refine one_ (i := 3) (N := some 11) #[true, true, true, true, false, true, false] rfl rfl (by kernel_rfl) (by decide) (fun K hK => ?_)
            refine goes_ Try.func24 (by kernel_rfl) rfl #[.int .i64 a0_4] (by rfl) rfl rfl (by (try simp only [List.map_toArray, List.map_cons, List.map_nil]); first | done | rfl | (simp only [List.length_drop, List.length_take]; rfl)) ?_
            with_reducible refine (insolvencyref1_Int.calls k a0_4 t364 t365 t366 _ A4.out).mono ?_
            rintro e w44 ⟨rfl, hb⟩
            refine ⟨_, rfl, ?_⟩
            have n0_ := Aside0.mk (blk_below (g := gb360) (o := .cells #[.int .i64 a0_0, .int .i64 a0_1, .int .i64 a0_2, .int .i64 a0_3, .int .i64 a0_4, .int .i64 a0_5] 36 (0, 0)) (by (with_reducible repeat (first | refine blk_drewN ?_ _ | refine blk_drew ?_ | refine blk_alloc ?_ _)); exact BK360.out) hb)
            have n1_ := Aside0.mk (blk_below (g := gb370) (o := .cells #[.bool false, .string (⟨#[]⟩ : ByteArray), .string (⟨#[]⟩ : ByteArray)] 54 (0, 0)) (by (with_reducible repeat (first | refine blk_drewN ?_ _ | refine blk_drew ?_ | refine blk_alloc ?_ _)); exact BK370.out) hb)
            have n2_ := Aside0.mk (below_step (by repeat (first | (with_reducible first | exact HB.out | apply below_alloc | apply pw_below_drewN | apply below_drew1 | refine below_set ?_ GE360.out | refine below_set ?_ GE370.out) | exact HB.out)) hb)
            clear BK360
            clear BK370
            clear HB
            have BK360 := n0_
            have BK370 := n1_
            have HB := n2_
            clear n0_ n1_ n2_
            (try clear hb)
            (try clear hb2)
            (try clear hk)
            (try clear hi)
            refine hK.out _ _ ⟨(blk_cell BK360.out 0).trans rfl, (blk_cell BK360.out 1).trans rfl, (blk_cell BK360.out 2).trans rfl, (blk_cell BK360.out 3).trans rfl, (blk_cell BK360.out 4).trans rfl, (blk_cell BK360.out 5).trans rfl⟩ (fun hHeld => ?_)
            clear hK K
            refine norm_ (a' := ?_) ?_ ?_
            rotate_left
            · show Act.put _ (some 11) _ = _
              simp only [Act.put, List.setIfInBounds_toArray, List.set_cons_zero, List.set_cons_succ, i64_w, i32_w]
              rfl
            refine one_ (i := 4) (N := some 12) #[true, true, true, true, true, true, false] rfl rfl (by kernel_rfl) (by decide) (fun K hK => ?_)
            refine goes_ Try.func23 (by kernel_rfl) rfl #[.agg #[.bool t361, .string t362, .string t363], .agg #[.bool t364, .string t365, .string t366]] (by rfl) rfl rfl (by (try simp only [List.map_toArray, List.map_cons, List.map_nil]); first | done | rfl | (simp only [List.length_drop, List.length_take]; rfl)) ?_
            with_reducible refine (insolvencyref1_Times.calls k t361 t362 t363 t364 t365 t366 t367 t368 t369 _ A5.out).mono ?_
            rintro e w45 ⟨rfl, hb⟩
            refine ⟨_, rfl, ?_⟩
            have n0_ := Aside0.mk (blk_below (g := gb360) (o := .cells #[.int .i64 a0_0, .int .i64 a0_1, .int .i64 a0_2, .int .i64 a0_3, .int .i64 a0_4, .int .i64 a0_5] 36 (0, 0)) (by (with_reducible repeat (first | refine blk_drewN ?_ _ | refine blk_drew ?_ | refine blk_alloc ?_ _)); exact BK360.out) hb)
            have n1_ := Aside0.mk (blk_below (g := gb370) (o := .cells #[.bool false, .string (⟨#[]⟩ : ByteArray), .string (⟨#[]⟩ : ByteArray)] 54 (0, 0)) (by (with_reducible repeat (first | refine blk_drewN ?_ _ | refine blk_drew ?_ | refine blk_alloc ?_ _)); exact BK370.out) hb)
            have n2_ := Aside0.mk (below_step (by repeat (first | (with_reducible first | exact HB.out | apply below_alloc | apply pw_below_drewN | apply below_drew1 | refine below_set ?_ GE360.out | refine below_set ?_ GE370.out) | exact HB.out)) hb)
            clear BK360
            clear BK370
            clear HB
            have BK360 := n0_
            have BK370 := n1_
            have HB := n2_
            clear n0_ n1_ n2_
            (try clear hb)
            (try clear hb2)
            (try clear hk)
            (try clear hi)
            refine hK.out _ _ ⟨(blk_cell BK360.out 0).trans rfl, (blk_cell BK360.out 1).trans rfl, (blk_cell BK360.out 2).trans rfl, (blk_cell BK360.out 3).trans rfl, (blk_cell BK360.out 4).trans rfl, (blk_cell BK360.out 5).trans rfl⟩ (fun hHeld => ?_)
            clear hK K
            refine norm_ (a' := ?_) ?_ ?_
            rotate_left
            · show Act.put _ (some 12) _ = _
              simp only [Act.put, List.setIfInBounds_toArray, List.set_cons_zero, List.set_cons_succ, i64_w, i32_w]
              rfl
            exact norm_ (by simp only [putAll, Act.put, List.setIfInBounds_toArray, List.set_cons_zero, List.set_cons_succ]) (hCont (gb370) _ ⟨hHeld, (by (with_reducible repeat (first | refine blk_drewN ?_ _ | refine blk_drew ?_ | refine blk_alloc ?_ _)); exact BK360.out), (by (with_reducible repeat (first | refine blk_drewN ?_ _ | refine blk_drew ?_ | refine blk_alloc ?_ _)); exact BK370.out), GW370.out, GE370.out, NB360_370.out, NB370_360.out, (by repeat (first | (with_reducible first | exact HB.out | apply below_alloc | apply pw_below_drewN | apply below_drew1 | refine below_set ?_ GE360.out | refine below_set ?_ GE370.out) | exact HB.out))⟩)
        · skip
          refine box_step ?hg (N := 3) ?hd (cs := #[.bool false, .string (⟨#[]⟩ : ByteArray), .string (⟨#[]⟩ : ByteArray)]) (t := 54) ?hr ?_; (case hd => rfl); (case hg => rfl); (case hr => first | (go_simp; done) | (go_simp; rfl))
          intro gb370 hg w42 hbox hb
          have n0_ := Aside0.mk (blk_below (g := gb360) (o := .cells #[.int .i64 a0_0, .int .i64 a0_1, .int .i64 a0_2, .int .i64 a0_3, .int .i64 a0_4, .int .i64 a0_5] 36 (0, 0)) (by (with_reducible repeat (first | refine blk_drewN ?_ _ | refine blk_drew ?_ | refine blk_alloc ?_ _)); exact BK360.out) hb)
          have n1_ := Aside0.mk (below_step (by repeat (first | (with_reducible first | exact HB.out | apply below_alloc | apply pw_below_drewN | apply below_drew1 | refine below_set ?_ GE360.out) | exact HB.out)) hb)
          have n2_ := Aside0.mk (hbox)
          have n3_ := Aside0.mk ((by rw [hg]; exact (below_size (by repeat (first | (with_reducible first | exact HB.out | apply below_alloc | apply pw_below_drewN | apply below_drew1 | refine below_set ?_ GE360.out) | exact HB.out))) : w.heap.size ≤ gb370))
          have n4_ := Aside0.mk ((by rw [hg]; exact (below_size (by repeat (first | (with_reducible first | exact HB.out | apply below_alloc | apply pw_below_drewN | apply below_drew1 | refine below_set ?_ GE360.out) | exact HB.out))) : w.heap.size ≤ gb370))
          have n5_ := Aside0.mk ((by rw [hg]; exact Nat.ne_of_lt (blk_lt (g := gb360) (o := .cells #[.int .i64 a0_0, .int .i64 a0_1, .int .i64 a0_2, .int .i64 a0_3, .int .i64 a0_4, .int .i64 a0_5] 36 (0, 0)) (by (with_reducible repeat (first | refine blk_drewN ?_ _ | refine blk_drew ?_ | refine blk_alloc ?_ _)); exact BK360.out)) : gb360 ≠ gb370))
          have n6_ := Aside0.mk ((by rw [hg]; exact Nat.ne_of_gt (blk_lt (g := gb360) (o := .cells #[.int .i64 a0_0, .int .i64 a0_1, .int .i64 a0_2, .int .i64 a0_3, .int .i64 a0_4, .int .i64 a0_5] 36 (0, 0)) (by (with_reducible repeat (first | refine blk_drewN ?_ _ | refine blk_drew ?_ | refine blk_alloc ?_ _)); exact BK360.out)) : gb370 ≠ gb360))
          clear BK360
          clear HB
          have BK360 := n0_
          have HB := n1_
          have BK370 := n2_
          have GW370 := n3_
          have GE370 := n4_
          have NB360_370 := n5_
          have NB370_360 := n6_
          clear n0_ n1_ n2_ n3_ n4_ n5_ n6_
          clear hb hbox hg
          refine hK.out _ _ ⟨(blk_cell BK360.out 0).trans rfl, (blk_cell BK360.out 1).trans rfl, (blk_cell BK360.out 2).trans rfl, (blk_cell BK360.out 3).trans rfl, (blk_cell BK360.out 4).trans rfl, (blk_cell BK360.out 5).trans rfl⟩ (fun hHeld => ?_)
          clear hK K
          refine norm_ (a' := ?_) ?_ ?_
          rotate_left
          · show Act.put _ (some 3) _ = _
            simp only [Act.put, List.setIfInBounds_toArray, List.set_cons_zero, List.set_cons_succ, i64_w, i32_w]
            rfl
          refine one_ (i := 0) (N := some 8) #[true, true, true, false, false, true, false] rfl rfl (by kernel_rfl) (by decide) (fun K hK => ?_)
          refine goes_ Try.func24 (by kernel_rfl) rfl #[.int .i64 10] (by rfl) rfl rfl (by (try simp only [List.map_toArray, List.map_cons, List.map_nil]); first | done | rfl | (simp only [List.length_drop, List.length_take]; rfl)) ?_
          with_reducible refine (insolvencyref1_Int.calls k 10 t361 t362 t363 _ A3.out).mono ?_
          rintro e w43 ⟨rfl, hb⟩
          refine ⟨_, rfl, ?_⟩
          have n0_ := Aside0.mk (blk_below (g := gb360) (o := .cells #[.int .i64 a0_0, .int .i64 a0_1, .int .i64 a0_2, .int .i64 a0_3, .int .i64 a0_4, .int .i64 a0_5] 36 (0, 0)) (by (with_reducible repeat (first | refine blk_drewN ?_ _ | refine blk_drew ?_ | refine blk_alloc ?_ _)); exact BK360.out) hb)
          have n1_ := Aside0.mk (blk_below (g := gb370) (o := .cells #[.bool false, .string (⟨#[]⟩ : ByteArray), .string (⟨#[]⟩ : ByteArray)] 54 (0, 0)) (by (with_reducible repeat (first | refine blk_drewN ?_ _ | refine blk_drew ?_ | refine blk_alloc ?_ _)); exact BK370.out) hb)
          have n2_ := Aside0.mk (below_step (by repeat (first | (with_reducible first | exact HB.out | apply below_alloc | apply pw_below_drewN | apply below_drew1 | refine below_set ?_ GE360.out | refine below_set ?_ GE370.out) | exact HB.out)) hb)
          clear BK360
          clear BK370
          clear HB
          have BK360 := n0_
          have BK370 := n1_
          have HB := n2_
          clear n0_ n1_ n2_
          (try clear hb)
          (try clear hb2)
          (try clear hk)
          (try clear hi)
          refine hK.out _ _ ⟨(blk_cell BK360.out 0).trans rfl, (blk_cell BK360.out 1).trans rfl, (blk_cell BK360.out 2).trans rfl, (blk_cell BK360.out 3).trans rfl, (blk_cell BK360.out 4).trans rfl, (blk_cell BK360.out 5).trans rfl⟩ (fun hHeld => ?_)
          clear hK K
          refine norm_ (a' := ?_) ?_ ?_
          rotate_left
          · show Act.put _ (some 8) _ = _
            simp only [Act.put, List.setIfInBounds_toArray, List.set_cons_zero, List.set_cons_succ, i64_w, i32_w]
            rfl
          refine one_ (i := 3) (N := some 11) #[true, true, true, true, false, true, false] rfl rfl (by kernel_rfl) (by decide) (fun K hK => ?_)
          refine goes_ Try.func24 (by kernel_rfl) rfl #[.int .i64 a0_4] (by rfl) rfl rfl (by (try simp only [List.map_toArray, List.map_cons, List.map_nil]); first | done | rfl | (simp only [List.length_drop, List.length_take]; rfl)) ?_
          with_reducible refine (insolvencyref1_Int.calls k a0_4 t364 t365 t366 _ A4.out).mono ?_
          rintro e w44 ⟨rfl, hb⟩
          refine ⟨_, rfl, ?_⟩
          have n0_ := Aside0.mk (blk_below (g := gb360) (o := .cells #[.int .i64 a0_0, .int .i64 a0_1, .int .i64 a0_2, .int .i64 a0_3, .int .i64 a0_4, .int .i64 a0_5] 36 (0, 0)) (by (with_reducible repeat (first | refine blk_drewN ?_ _ | refine blk_drew ?_ | refine blk_alloc ?_ _)); exact BK360.out) hb)
          have n1_ := Aside0.mk (blk_below (g := gb370) (o := .cells #[.bool false, .string (⟨#[]⟩ : ByteArray), .string (⟨#[]⟩ : ByteArray)] 54 (0, 0)) (by (with_reducible repeat (first | refine blk_drewN ?_ _ | refine blk_drew ?_ | refine blk_alloc ?_ _)); exact BK370.out) hb)
          have n2_ := Aside0.mk (below_step (by repeat (first | (with_reducible first | exact HB.out | apply below_alloc | apply pw_below_drewN | apply below_drew1 | refine below_set ?_ GE360.out | refine below_set ?_ GE370.out) | exact HB.out)) hb)
          clear BK360
          clear BK370
          clear HB
          have BK360 := n0_
          have BK370 := n1_
          have HB := n2_
          clear n0_ n1_ n2_
          (try clear hb)
          (try clear hb2)
          (try clear hk)
          (try clear hi)
          refine hK.out _ _ ⟨(blk_cell BK360.out 0).trans rfl, (blk_cell BK360.out 1).trans rfl, (blk_cell BK360.out 2).trans rfl, (blk_cell BK360.out 3).trans rfl, (blk_cell BK360.out 4).trans rfl, (blk_cell BK360.out 5).trans rfl⟩ (fun hHeld => ?_)
          clear hK K
          refine norm_ (a' := ?_) ?_ ?_
          rotate_left
          · show Act.put _ (some 11) _ = _
            simp only [Act.put, List.setIfInBounds_toArray, List.set_cons_zero, List.set_cons_succ, i64_w, i32_w]
            rfl
          refine one_ (i := 4) (N := some 12) #[true, true, true, true, true, true, false] rfl rfl (by kernel_rfl) (by decide) (fun K hK => ?_)
          refine goes_ Try.func23 (by kernel_rfl) rfl #[.agg #[.bool t361, .string t362, .string t363], .agg #[.bool t364, .string t365, .string t366]] (by rfl) rfl rfl (by (try simp only [List.map_toArray, List.map_cons, List.map_nil]); first | done | rfl | (simp only [List.length_drop, List.length_take]; rfl)) ?_
          with_reducible refine (insolvencyref1_Times.calls k t361 t362 t363 t364 t365 t366 t367 t368 t369 _ A5.out).mono ?_
          rintro e w45 ⟨rfl, hb⟩
          refine ⟨_, rfl, ?_⟩
          have n0_ := Aside0.mk (blk_below (g := gb360) (o := .cells #[.int .i64 a0_0, .int .i64 a0_1, .int .i64 a0_2, .int .i64 a0_3, .int .i64 a0_4, .int .i64 a0_5] 36 (0, 0)) (by (with_reducible repeat (first | refine blk_drewN ?_ _ | refine blk_drew ?_ | refine blk_alloc ?_ _)); exact BK360.out) hb)
          have n1_ := Aside0.mk (blk_below (g := gb370) (o := .cells #[.bool false, .string (⟨#[]⟩ : ByteArray), .string (⟨#[]⟩ : ByteArray)] 54 (0, 0)) (by (with_reducible repeat (first | refine blk_drewN ?_ _ | refine blk_drew ?_ | refine blk_alloc ?_ _)); exact BK370.out) hb)
          have n2_ := Aside0.mk (below_step (by repeat (first | (with_reducible first | exact HB.out | apply below_alloc | apply pw_below_drewN | apply below_drew1 | refine below_set ?_ GE360.out | refine below_set ?_ GE370.out) | exact HB.out)) hb)
          clear BK360
          clear BK370
          clear HB
          have BK360 := n0_
          have BK370 := n1_
          have HB := n2_
          clear n0_ n1_ n2_
          (try clear hb)
          (try clear hb2)
          (try clear hk)
          (try clear hi)
          refine hK.out _ _ ⟨(blk_cell BK360.out 0).trans rfl, (blk_cell BK360.out 1).trans rfl, (blk_cell BK360.out 2).trans rfl, (blk_cell BK360.out 3).trans rfl, (blk_cell BK360.out 4).trans rfl, (blk_cell BK360.out 5).trans rfl⟩ (fun hHeld => ?_)
          clear hK K
          refine norm_ (a' := ?_) ?_ ?_
          rotate_left
          · show Act.put _ (some 12) _ = _
            simp only [Act.put, List.setIfInBounds_toArray, List.set_cons_zero, List.set_cons_succ, i64_w, i32_w]
            rfl
          exact norm_ (by simp only [putAll, Act.put, List.setIfInBounds_toArray, List.set_cons_zero, List.set_cons_succ]) (hCont (gb370) _ ⟨hHeld, (by (with_reducible repeat (first | refine blk_drewN ?_ _ | refine blk_drew ?_ | refine blk_alloc ?_ _)); exact BK360.out), (by (with_reducible repeat (first | refine blk_drewN ?_ _ | refine blk_drew ?_ | refine blk_alloc ?_ _)); exact BK370.out), GW370.out, GE370.out, NB360_370.out, NB370_360.out, (by repeat (first | (with_reducible first | exact HB.out | apply below_alloc | apply pw_below_drewN | apply below_drew1 | refine below_set ?_ GE360.out | refine below_set ?_ GE370.out) | exact HB.out))⟩)
      rintro gb370 w46 ⟨hS_, h0_, h1_, h2_, h3_, h4_, h5_, h6_⟩
      have n0_ : Aside0 (w46.heap[gb360]? = some (.cells #[.int .i64 a0_0, .int .i64 a0_1, .int .i64 a0_2, .int .i64 a0_3, .int .i64 a0_4, .int .i64 a0_5] 36 (0, 0))) := ⟨h0_⟩
      have n1_ : Aside0 (w46.heap[gb370]? = some (.cells #[.bool false, .string (⟨#[]⟩ : ByteArray), .string (⟨#[]⟩ : ByteArray)] 54 (0, 0))) := ⟨h1_⟩
      have n2_ : Aside0 (w.heap.size ≤ gb370) := ⟨h2_⟩
      have n3_ : Aside0 (w.heap.size ≤ gb370) := ⟨h3_⟩
      have n4_ : Aside0 (gb360 ≠ gb370) := ⟨h4_⟩
      have n5_ : Aside0 (gb370 ≠ gb360) := ⟨h5_⟩
      have n6_ : Aside0 (Below w.heap.size w w46) := ⟨h6_⟩
      clear BK360
      clear HB
      clear h0_ h1_ h2_ h3_ h4_ h5_ h6_
      have BK360 := n0_
      have BK370 := n1_
      have GW370 := n2_
      have GE370 := n3_
      have NB360_370 := n4_
      have NB370_360 := n5_
      have HB := n6_
      clear n0_ n1_ n2_ n3_ n4_ n5_ n6_
      have hHeld : w46.cell? ⟨gb360, 0, none⟩ = some (.int .i64 a0_0) ∧ w46.cell? ⟨gb360, 1, none⟩ = some (.int .i64 a0_1) ∧ w46.cell? ⟨gb360, 2, none⟩ = some (.int .i64 a0_2) ∧ w46.cell? ⟨gb360, 3, none⟩ = some (.int .i64 a0_3) ∧ w46.cell? ⟨gb360, 4, none⟩ = some (.int .i64 a0_4) ∧ w46.cell? ⟨gb360, 5, none⟩ = some (.int .i64 a0_5) := hS_
      refine norm_ (a' := ?_) ?_ ?_
      rotate_left
      · simp only [putAll, Act.put, List.setIfInBounds_toArray, List.set_cons_zero, List.set_cons_succ]
        rfl
      refine one_ (i := 6) (N := none) #[true, true, true, true, true, true, true] rfl rfl (by kernel_rfl) (by decide) (fun K hK => ?_)
      have hs47 : w46.cell? ⟨gb370, 0, none⟩ = some (.bool false) := (blk_cell BK370.out 0).trans rfl
      have hfs47 := blk_frozen BK370.out 0
      have hns47_0 := NB360_370.out
      have hms47_0 := NB370_360.out
      have hs48 : w46.cell? ⟨gb370, 1, none⟩ = some (.string (⟨#[]⟩ : ByteArray)) := (blk_cell BK370.out 1).trans rfl
      have hfs48 := blk_frozen BK370.out 1
      have hns48_0 := NB360_370.out
      have hms48_0 := NB370_360.out
      have hs49 : w46.cell? ⟨gb370, 2, none⟩ = some (.string (⟨#[]⟩ : ByteArray)) := (blk_cell BK370.out 2).trans rfl
      have hfs49 := blk_frozen BK370.out 2
      have hns49_0 := NB360_370.out
      have hms49_0 := NB370_360.out
      refine skip_ (w1 := ?_) (by rfl) rfl ?_ ?_
      rotate_left
      · go_simp
        rfl
      refine hK.out _ _ ⟨((cell_far (p := ⟨gb370, _, none⟩) NB360_370.out _).trans (((cell_far (p := ⟨gb370, _, none⟩) NB360_370.out _).trans (((cell_far (p := ⟨gb370, _, none⟩) NB360_370.out _).trans (hHeld.1)))))), ((cell_far (p := ⟨gb370, _, none⟩) NB360_370.out _).trans (((cell_far (p := ⟨gb370, _, none⟩) NB360_370.out _).trans (((cell_far (p := ⟨gb370, _, none⟩) NB360_370.out _).trans (hHeld.2.1)))))), ((cell_far (p := ⟨gb370, _, none⟩) NB360_370.out _).trans (((cell_far (p := ⟨gb370, _, none⟩) NB360_370.out _).trans (((cell_far (p := ⟨gb370, _, none⟩) NB360_370.out _).trans (hHeld.2.2.1)))))), ((cell_far (p := ⟨gb370, _, none⟩) NB360_370.out _).trans (((cell_far (p := ⟨gb370, _, none⟩) NB360_370.out _).trans (((cell_far (p := ⟨gb370, _, none⟩) NB360_370.out _).trans (hHeld.2.2.2.1)))))), ((cell_far (p := ⟨gb370, _, none⟩) NB360_370.out _).trans (((cell_far (p := ⟨gb370, _, none⟩) NB360_370.out _).trans (((cell_far (p := ⟨gb370, _, none⟩) NB360_370.out _).trans (hHeld.2.2.2.2.1)))))), ((cell_far (p := ⟨gb370, _, none⟩) NB360_370.out _).trans (((cell_far (p := ⟨gb370, _, none⟩) NB360_370.out _).trans (((cell_far (p := ⟨gb370, _, none⟩) NB360_370.out _).trans (hHeld.2.2.2.2.2))))))⟩ (fun hHeld => ?_)
      clear hK K
      refine done_ (by kernel_rfl) ?_
      try go_wp2
      have n0_ : Aside0 ((((w46.setCell ⟨gb370, 0, none⟩ (.bool t367)).setCell ⟨gb370, 1, none⟩ (.string t368)).setCell ⟨gb370, 2, none⟩ (.string t369)).heap[gb360]? = some (.cells #[.int .i64 a0_0, .int .i64 a0_1, .int .i64 a0_2, .int .i64 a0_3, .int .i64 a0_4, .int .i64 a0_5] 36 (0, 0))) := ⟨by (with_reducible repeat (first | refine blk_drewN ?_ _ | refine blk_drew ?_ | refine blk_alloc ?_ _)); refine blk_far ?_ NB360_370.out _; (with_reducible repeat (first | refine blk_drewN ?_ _ | refine blk_drew ?_ | refine blk_alloc ?_ _)); refine blk_far ?_ NB360_370.out _; (with_reducible repeat (first | refine blk_drewN ?_ _ | refine blk_drew ?_ | refine blk_alloc ?_ _)); refine blk_far ?_ NB360_370.out _; (with_reducible repeat (first | refine blk_drewN ?_ _ | refine blk_drew ?_ | refine blk_alloc ?_ _)); exact BK360.out⟩
      have n1_ : Aside0 ((((w46.setCell ⟨gb370, 0, none⟩ (.bool t367)).setCell ⟨gb370, 1, none⟩ (.string t368)).setCell ⟨gb370, 2, none⟩ (.string t369)).heap[gb370]? = some (.cells #[.bool t367, .string t368, .string t369] 54 (0, 0))) := ⟨by (with_reducible repeat (first | refine blk_drewN ?_ _ | refine blk_drew ?_ | refine blk_alloc ?_ _)); refine blk_put (cs := #[.bool t367, .string t368, .string (⟨#[]⟩ : ByteArray)]) ?_ 2 _ rfl; (with_reducible repeat (first | refine blk_drewN ?_ _ | refine blk_drew ?_ | refine blk_alloc ?_ _)); refine blk_put (cs := #[.bool t367, .string (⟨#[]⟩ : ByteArray), .string (⟨#[]⟩ : ByteArray)]) ?_ 1 _ rfl; (with_reducible repeat (first | refine blk_drewN ?_ _ | refine blk_drew ?_ | refine blk_alloc ?_ _)); refine blk_put (cs := #[.bool false, .string (⟨#[]⟩ : ByteArray), .string (⟨#[]⟩ : ByteArray)]) ?_ 0 _ rfl; (with_reducible repeat (first | refine blk_drewN ?_ _ | refine blk_drew ?_ | refine blk_alloc ?_ _)); exact BK370.out⟩
      have n2_ : Aside0 (Below w.heap.size w (((w46.setCell ⟨gb370, 0, none⟩ (.bool t367)).setCell ⟨gb370, 1, none⟩ (.string t368)).setCell ⟨gb370, 2, none⟩ (.string t369))) := ⟨by repeat (first | (with_reducible first | exact HB.out | apply below_alloc | apply pw_below_drewN | apply below_drew1 | refine below_set ?_ GE360.out | refine below_set ?_ GE370.out) | exact HB.out)⟩
      (try clear BK360)
      (try clear BK370)
      (try clear HB)
      generalize (((w46.setCell ⟨gb370, 0, none⟩ (.bool t367)).setCell ⟨gb370, 1, none⟩ (.string t368)).setCell ⟨gb370, 2, none⟩ (.string t369)) = w50 at n0_ n1_ n2_ ⊢
      have BK360 := n0_
      have BK370 := n1_
      have HB := n2_
      clear n0_ n1_ n2_
      have n0_ := Aside0.mk (blk_drew BK360.out)
      have n1_ := Aside0.mk (blk_drew BK370.out)
      have n2_ := Aside0.mk (below_drew1 HB.out)
      clear BK360
      clear BK370
      clear HB
      have BK360 := n0_
      have BK370 := n1_
      have HB := n2_
      clear n0_ n1_ n2_
      refine start_ (n := 7) (S := fun w' => w'.cell? ⟨gb360, 0, none⟩ = some (.int .i64 a0_0) ∧ w'.cell? ⟨gb360, 1, none⟩ = some (.int .i64 a0_1) ∧ w'.cell? ⟨gb360, 2, none⟩ = some (.int .i64 a0_2) ∧ w'.cell? ⟨gb360, 3, none⟩ = some (.int .i64 a0_3) ∧ w'.cell? ⟨gb360, 4, none⟩ = some (.int .i64 a0_4) ∧ w'.cell? ⟨gb360, 5, none⟩ = some (.int .i64 a0_5)) (ds := []) #[false, false, false, false, false, false, false] (by kernel_rfl) rfl rfl ⟨(blk_cell BK360.out 0).trans rfl, (blk_cell BK360.out 1).trans rfl, (blk_cell BK360.out 2).trans rfl, (blk_cell BK360.out 3).trans rfl, (blk_cell BK360.out 4).trans rfl, (blk_cell BK360.out 5).trans rfl⟩ (fun hHeld => ?_)
      generalize w50.drew = w51 at BK360 BK370 HB hHeld ⊢
      refine pure_ (i := 1) (N := some 14) (v := ?_) (a' := ?_) #[false, true, false, false, false, false, false] rfl rfl (by kernel_rfl) (fun _ _ _ h => h) (Or.inl ⟨by rfl, ?_⟩) ?_ ?_
      rotate_left
      · intro w'
        go_simp
        with_reducible rfl
      rotate_left
      · simp only [Act.put, List.setIfInBounds_toArray, List.set_cons_zero, List.set_cons_succ, i64_w, i32_w]
        rfl
      refine take_ (i := 2) (N := some 15) (v := ?_) (a' := ?_) #[false, true, true, false, false, false, false] rfl rfl (by kernel_rfl) (fun _ _ _ h => h) (Or.inl ⟨by rfl, ?_⟩) hHeld ?_ ?_
      rotate_left
      · rintro w' ⟨s0, s1, s2, s3, s4, s5⟩
        go_simp
        with_reducible rfl
      rotate_left
      · simp only [Act.put, List.setIfInBounds_toArray, List.set_cons_zero, List.set_cons_succ, i64_w, i32_w]
        rfl
      refine join_ (σ := Nat) 1 #[true, true, true, true, true, true, false] (fun s_ => [(13, .agg #[.bool t371, .string t372, .string t373]), (16, .agg #[.bool t374, .string t375, .string t376]), (17, .agg #[.bool t377, .string t378, .string t379]), (4, .pointer (some ⟨s_, 0, none⟩))]) (fun s_ w' => (w'.cell? ⟨gb360, 0, none⟩ = some (.int .i64 a0_0) ∧ w'.cell? ⟨gb360, 1, none⟩ = some (.int .i64 a0_1) ∧ w'.cell? ⟨gb360, 2, none⟩ = some (.int .i64 a0_2) ∧ w'.cell? ⟨gb360, 3, none⟩ = some (.int .i64 a0_3) ∧ w'.cell? ⟨gb360, 4, none⟩ = some (.int .i64 a0_4) ∧ w'.cell? ⟨gb360, 5, none⟩ = some (.int .i64 a0_5)) ∧ (w'.heap[gb360]? = some (.cells #[.int .i64 a0_0, .int .i64 a0_1, .int .i64 a0_2, .int .i64 a0_3, .int .i64 a0_4, .int .i64 a0_5] 36 (0, 0))) ∧ (w'.heap[gb370]? = some (.cells #[.bool t367, .string t368, .string t369] 54 (0, 0))) ∧ (w'.heap[s_]? = some (.cells #[.bool false, .string (⟨#[]⟩ : ByteArray), .string (⟨#[]⟩ : ByteArray)] 54 (0, 0))) ∧ (w.heap.size ≤ s_) ∧ (w.heap.size ≤ s_) ∧ (gb360 ≠ s_) ∧ (s_ ≠ gb360) ∧ (gb370 ≠ s_) ∧ (s_ ≠ gb370) ∧ (Below w.heap.size w w')) ?_ ?_
      rotate_left
      · intro hCont
        refine two_ (i := 0) (j := 5) (Ni := some 13) (Nj := some 4) #[true, true, true, false, false, false, false] #[false, true, true, false, false, true, false] rfl rfl rfl rfl (by kernel_rfl) (by decide) (by decide) (fun K hK => ?_) (fun K hK => ?_)
        · skip
          refine goes_ Try.func24 (by kernel_rfl) rfl #[.int .i64 9] (by rfl) rfl rfl (by (try simp only [List.map_toArray, List.map_cons, List.map_nil]); first | done | rfl | (simp only [List.length_drop, List.length_take]; rfl)) ?_
          with_reducible refine (insolvencyref1_Int.calls k 9 t371 t372 t373 _ A6.out).mono ?_
          rintro e w52 ⟨rfl, hb⟩
          refine ⟨_, rfl, ?_⟩
          have n0_ := Aside0.mk (blk_below (g := gb360) (o := .cells #[.int .i64 a0_0, .int .i64 a0_1, .int .i64 a0_2, .int .i64 a0_3, .int .i64 a0_4, .int .i64 a0_5] 36 (0, 0)) (by (with_reducible repeat (first | refine blk_drewN ?_ _ | refine blk_drew ?_ | refine blk_alloc ?_ _)); exact BK360.out) hb)
          have n1_ := Aside0.mk (blk_below (g := gb370) (o := .cells #[.bool t367, .string t368, .string t369] 54 (0, 0)) (by (with_reducible repeat (first | refine blk_drewN ?_ _ | refine blk_drew ?_ | refine blk_alloc ?_ _)); exact BK370.out) hb)
          have n2_ := Aside0.mk (below_step (by repeat (first | (with_reducible first | exact HB.out | apply below_alloc | apply pw_below_drewN | apply below_drew1 | refine below_set ?_ GE360.out | refine below_set ?_ GE370.out) | exact HB.out)) hb)
          clear BK360
          clear BK370
          clear HB
          have BK360 := n0_
          have BK370 := n1_
          have HB := n2_
          clear n0_ n1_ n2_
          (try clear hb)
          (try clear hb2)
          (try clear hk)
          (try clear hi)
          refine hK.out _ _ ⟨(blk_cell BK360.out 0).trans rfl, (blk_cell BK360.out 1).trans rfl, (blk_cell BK360.out 2).trans rfl, (blk_cell BK360.out 3).trans rfl, (blk_cell BK360.out 4).trans rfl, (blk_cell BK360.out 5).trans rfl⟩ (fun hHeld => ?_)
          clear hK K
          refine norm_ (a' := ?_) ?_ ?_
          rotate_left
          · show Act.put _ (some 13) _ = _
            simp only [Act.put, List.setIfInBounds_toArray, List.set_cons_zero, List.set_cons_succ, i64_w, i32_w]
            rfl
          refine two_ (i := 3) (j := 5) (Ni := some 16) (Nj := some 4) #[true, true, true, true, false, false, false] #[true, true, true, false, false, true, false] rfl rfl rfl rfl (by kernel_rfl) (by decide) (by decide) (fun K hK => ?_) (fun K hK => ?_)
          · skip
            refine goes_ Try.func24 (by kernel_rfl) rfl #[.int .i64 a0_5] (by rfl) rfl rfl (by (try simp only [List.map_toArray, List.map_cons, List.map_nil]); first | done | rfl | (simp only [List.length_drop, List.length_take]; rfl)) ?_
            with_reducible refine (insolvencyref1_Int.calls k a0_5 t374 t375 t376 _ A7.out).mono ?_
            rintro e w53 ⟨rfl, hb⟩
            refine ⟨_, rfl, ?_⟩
            have n0_ := Aside0.mk (blk_below (g := gb360) (o := .cells #[.int .i64 a0_0, .int .i64 a0_1, .int .i64 a0_2, .int .i64 a0_3, .int .i64 a0_4, .int .i64 a0_5] 36 (0, 0)) (by (with_reducible repeat (first | refine blk_drewN ?_ _ | refine blk_drew ?_ | refine blk_alloc ?_ _)); exact BK360.out) hb)
            have n1_ := Aside0.mk (blk_below (g := gb370) (o := .cells #[.bool t367, .string t368, .string t369] 54 (0, 0)) (by (with_reducible repeat (first | refine blk_drewN ?_ _ | refine blk_drew ?_ | refine blk_alloc ?_ _)); exact BK370.out) hb)
            have n2_ := Aside0.mk (below_step (by repeat (first | (with_reducible first | exact HB.out | apply below_alloc | apply pw_below_drewN | apply below_drew1 | refine below_set ?_ GE360.out | refine below_set ?_ GE370.out) | exact HB.out)) hb)
            clear BK360
            clear BK370
            clear HB
            have BK360 := n0_
            have BK370 := n1_
            have HB := n2_
            clear n0_ n1_ n2_
            (try clear hb)
            (try clear hb2)
            (try clear hk)
            (try clear hi)
            refine hK.out _ _ ⟨(blk_cell BK360.out 0).trans rfl, (blk_cell BK360.out 1).trans rfl, (blk_cell BK360.out 2).trans rfl, (blk_cell BK360.out 3).trans rfl, (blk_cell BK360.out 4).trans rfl, (blk_cell BK360.out 5).trans rfl⟩ (fun hHeld => ?_)
            clear hK K
            refine norm_ (a' := ?_) ?_ ?_
            rotate_left
            · show Act.put _ (some 16) _ = _
              simp only [Act.put, List.setIfInBounds_toArray, List.set_cons_zero, List.set_cons_succ, i64_w, i32_w]
              rfl
            refine two_ (i := 4) (j := 5) (Ni := some 17) (Nj := some 4) #[true, true, true, true, true, false, false] #[true, true, true, true, false, true, false] rfl rfl rfl rfl (by kernel_rfl) (by decide) (by decide) (fun K hK => ?_) (fun K hK => ?_)
            · skip
              refine goes_ Try.func23 (by kernel_rfl) rfl #[.agg #[.bool t371, .string t372, .string t373], .agg #[.bool t374, .string t375, .string t376]] (by rfl) rfl rfl (by (try simp only [List.map_toArray, List.map_cons, List.map_nil]); first | done | rfl | (simp only [List.length_drop, List.length_take]; rfl)) ?_
              with_reducible refine (insolvencyref1_Times.calls k t371 t372 t373 t374 t375 t376 t377 t378 t379 _ A8.out).mono ?_
              rintro e w54 ⟨rfl, hb⟩
              refine ⟨_, rfl, ?_⟩
              have n0_ := Aside0.mk (blk_below (g := gb360) (o := .cells #[.int .i64 a0_0, .int .i64 a0_1, .int .i64 a0_2, .int .i64 a0_3, .int .i64 a0_4, .int .i64 a0_5] 36 (0, 0)) (by (with_reducible repeat (first | refine blk_drewN ?_ _ | refine blk_drew ?_ | refine blk_alloc ?_ _)); exact BK360.out) hb)
              have n1_ := Aside0.mk (blk_below (g := gb370) (o := .cells #[.bool t367, .string t368, .string t369] 54 (0, 0)) (by (with_reducible repeat (first | refine blk_drewN ?_ _ | refine blk_drew ?_ | refine blk_alloc ?_ _)); exact BK370.out) hb)
              have n2_ := Aside0.mk (below_step (by repeat (first | (with_reducible first | exact HB.out | apply below_alloc | apply pw_below_drewN | apply below_drew1 | refine below_set ?_ GE360.out | refine below_set ?_ GE370.out) | exact HB.out)) hb)
              clear BK360
              clear BK370
              clear HB
              have BK360 := n0_
              have BK370 := n1_
              have HB := n2_
              clear n0_ n1_ n2_
              (try clear hb)
              (try clear hb2)
              (try clear hk)
              (try clear hi)
              refine hK.out _ _ ⟨(blk_cell BK360.out 0).trans rfl, (blk_cell BK360.out 1).trans rfl, (blk_cell BK360.out 2).trans rfl, (blk_cell BK360.out 3).trans rfl, (blk_cell BK360.out 4).trans rfl, (blk_cell BK360.out 5).trans rfl⟩ (fun hHeld => ?_)
              clear hK K
              refine norm_ (a' := ?_) ?_ ?_
              rotate_left
              · show Act.put _ (some 17) _ = _
                simp only [Act.put, List.setIfInBounds_toArray, List.set_cons_zero, List.set_cons_succ, i64_w, i32_w]
                rfl
              refine one_ (i := 5) (N := some 4) #[true, true, true, true, true, true, false] rfl rfl (by kernel_rfl) (by decide) (fun K hK => ?_)
              refine box_step ?hg (N := 4) ?hd (cs := #[.bool false, .string (⟨#[]⟩ : ByteArray), .string (⟨#[]⟩ : ByteArray)]) (t := 54) ?hr ?_; (case hd => rfl); (case hg => rfl); (case hr => first | (go_simp; done) | (go_simp; rfl))
              intro gb380 hg w55 hbox hb
              have n0_ := Aside0.mk (blk_below (g := gb360) (o := .cells #[.int .i64 a0_0, .int .i64 a0_1, .int .i64 a0_2, .int .i64 a0_3, .int .i64 a0_4, .int .i64 a0_5] 36 (0, 0)) (by (with_reducible repeat (first | refine blk_drewN ?_ _ | refine blk_drew ?_ | refine blk_alloc ?_ _)); exact BK360.out) hb)
              have n1_ := Aside0.mk (blk_below (g := gb370) (o := .cells #[.bool t367, .string t368, .string t369] 54 (0, 0)) (by (with_reducible repeat (first | refine blk_drewN ?_ _ | refine blk_drew ?_ | refine blk_alloc ?_ _)); exact BK370.out) hb)
              have n2_ := Aside0.mk (below_step (by repeat (first | (with_reducible first | exact HB.out | apply below_alloc | apply pw_below_drewN | apply below_drew1 | refine below_set ?_ GE360.out | refine below_set ?_ GE370.out) | exact HB.out)) hb)
              have n3_ := Aside0.mk (hbox)
              have n4_ := Aside0.mk ((by rw [hg]; exact (below_size (by repeat (first | (with_reducible first | exact HB.out | apply below_alloc | apply pw_below_drewN | apply below_drew1 | refine below_set ?_ GE360.out | refine below_set ?_ GE370.out) | exact HB.out))) : w.heap.size ≤ gb380))
              have n5_ := Aside0.mk ((by rw [hg]; exact (below_size (by repeat (first | (with_reducible first | exact HB.out | apply below_alloc | apply pw_below_drewN | apply below_drew1 | refine below_set ?_ GE360.out | refine below_set ?_ GE370.out) | exact HB.out))) : w.heap.size ≤ gb380))
              have n6_ := Aside0.mk ((by rw [hg]; exact Nat.ne_of_lt (blk_lt (g := gb360) (o := .cells #[.int .i64 a0_0, .int .i64 a0_1, .int .i64 a0_2, .int .i64 a0_3, .int .i64 a0_4, .int .i64 a0_5] 36 (0, 0)) (by (with_reducible repeat (first | refine blk_drewN ?_ _ | refine blk_drew ?_ | refine blk_alloc ?_ _)); exact BK360.out)) : gb360 ≠ gb380))
              have n7_ := Aside0.mk ((by rw [hg]; exact Nat.ne_of_gt (blk_lt (g := gb360) (o := .cells #[.int .i64 a0_0, .int .i64 a0_1, .int .i64 a0_2, .int .i64 a0_3, .int .i64 a0_4, .int .i64 a0_5] 36 (0, 0)) (by (with_reducible repeat (first | refine blk_drewN ?_ _ | refine blk_drew ?_ | refine blk_alloc ?_ _)); exact BK360.out)) : gb380 ≠ gb360))
              have n8_ := Aside0.mk ((by rw [hg]; exact Nat.ne_of_lt (blk_lt (g := gb370) (o := .cells #[.bool t367, .string t368, .string t369] 54 (0, 0)) (by (with_reducible repeat (first | refine blk_drewN ?_ _ | refine blk_drew ?_ | refine blk_alloc ?_ _)); exact BK370.out)) : gb370 ≠ gb380))
              have n9_ := Aside0.mk ((by rw [hg]; exact Nat.ne_of_gt (blk_lt (g := gb370) (o := .cells #[.bool t367, .string t368, .string t369] 54 (0, 0)) (by (with_reducible repeat (first | refine blk_drewN ?_ _ | refine blk_drew ?_ | refine blk_alloc ?_ _)); exact BK370.out)) : gb380 ≠ gb370))
              clear BK360
              clear BK370
              clear HB
              have BK360 := n0_
              have BK370 := n1_
              have HB := n2_
              have BK380 := n3_
              have GW380 := n4_
              have GE380 := n5_
              have NB360_380 := n6_
              have NB380_360 := n7_
              have NB370_380 := n8_
              have NB380_370 := n9_
              clear n0_ n1_ n2_ n3_ n4_ n5_ n6_ n7_ n8_ n9_
              clear hb hbox hg
              refine hK.out _ _ ⟨(blk_cell BK360.out 0).trans rfl, (blk_cell BK360.out 1).trans rfl, (blk_cell BK360.out 2).trans rfl, (blk_cell BK360.out 3).trans rfl, (blk_cell BK360.out 4).trans rfl, (blk_cell BK360.out 5).trans rfl⟩ (fun hHeld => ?_)
              clear hK K
              refine norm_ (a' := ?_) ?_ ?_
              rotate_left
              · show Act.put _ (some 4) _ = _
                simp only [Act.put, List.setIfInBounds_toArray, List.set_cons_zero, List.set_cons_succ, i64_w, i32_w]
                rfl
              exact norm_ (by simp only [putAll, Act.put, List.setIfInBounds_toArray, List.set_cons_zero, List.set_cons_succ]) (hCont (gb380) _ ⟨hHeld, (by (with_reducible repeat (first | refine blk_drewN ?_ _ | refine blk_drew ?_ | refine blk_alloc ?_ _)); exact BK360.out), (by (with_reducible repeat (first | refine blk_drewN ?_ _ | refine blk_drew ?_ | refine blk_alloc ?_ _)); exact BK370.out), (by (with_reducible repeat (first | refine blk_drewN ?_ _ | refine blk_drew ?_ | refine blk_alloc ?_ _)); exact BK380.out), GW380.out, GE380.out, NB360_380.out, NB380_360.out, NB370_380.out, NB380_370.out, (by repeat (first | (with_reducible first | exact HB.out | apply below_alloc | apply pw_below_drewN | apply below_drew1 | refine below_set ?_ GE360.out | refine below_set ?_ GE370.out | refine below_set ?_ GE380.out) | exact HB.out))⟩)
            · skip
              refine box_step ?hg (N := 4) ?hd (cs := #[.bool false, .string (⟨#[]⟩ : ByteArray), .string (⟨#[]⟩ : ByteArray)]) (t := 54) ?hr ?_; (case hd => rfl); (case hg => rfl); (case hr => first | (go_simp; done) | (go_simp; rfl))
              intro gb380 hg w54 hbox hb
              have n0_ := Aside0.mk (blk_below (g := gb360) (o := .cells #[.int .i64 a0_0, .int .i64 a0_1, .int .i64 a0_2, .int .i64 a0_3, .int .i64 a0_4, .int .i64 a0_5] 36 (0, 0)) (by (with_reducible repeat (first | refine blk_drewN ?_ _ | refine blk_drew ?_ | refine blk_alloc ?_ _)); exact BK360.out) hb)
              have n1_ := Aside0.mk (blk_below (g := gb370) (o := .cells #[.bool t367, .string t368, .string t369] 54 (0, 0)) (by (with_reducible repeat (first | refine blk_drewN ?_ _ | refine blk_drew ?_ | refine blk_alloc ?_ _)); exact BK370.out) hb)
              have n2_ := Aside0.mk (below_step (by repeat (first | (with_reducible first | exact HB.out | apply below_alloc | apply pw_below_drewN | apply below_drew1 | refine below_set ?_ GE360.out | refine below_set ?_ GE370.out) | exact HB.out)) hb)
              have n3_ := Aside0.mk (hbox)
              have n4_ := Aside0.mk ((by rw [hg]; exact (below_size (by repeat (first | (with_reducible first | exact HB.out | apply below_alloc | apply pw_below_drewN | apply below_drew1 | refine below_set ?_ GE360.out | refine below_set ?_ GE370.out) | exact HB.out))) : w.heap.size ≤ gb380))
              have n5_ := Aside0.mk ((by rw [hg]; exact (below_size (by repeat (first | (with_reducible first | exact HB.out | apply below_alloc | apply pw_below_drewN | apply below_drew1 | refine below_set ?_ GE360.out | refine below_set ?_ GE370.out) | exact HB.out))) : w.heap.size ≤ gb380))
              have n6_ := Aside0.mk ((by rw [hg]; exact Nat.ne_of_lt (blk_lt (g := gb360) (o := .cells #[.int .i64 a0_0, .int .i64 a0_1, .int .i64 a0_2, .int .i64 a0_3, .int .i64 a0_4, .int .i64 a0_5] 36 (0, 0)) (by (with_reducible repeat (first | refine blk_drewN ?_ _ | refine blk_drew ?_ | refine blk_alloc ?_ _)); exact BK360.out)) : gb360 ≠ gb380))
              have n7_ := Aside0.mk ((by rw [hg]; exact Nat.ne_of_gt (blk_lt (g := gb360) (o := .cells #[.int .i64 a0_0, .int .i64 a0_1, .int .i64 a0_2, .int .i64 a0_3, .int .i64 a0_4, .int .i64 a0_5] 36 (0, 0)) (by (with_reducible repeat (first | refine blk_drewN ?_ _ | refine blk_drew ?_ | refine blk_alloc ?_ _)); exact BK360.out)) : gb380 ≠ gb360))
              have n8_ := Aside0.mk ((by rw [hg]; exact Nat.ne_of_lt (blk_lt (g := gb370) (o := .cells #[.bool t367, .string t368, .string t369] 54 (0, 0)) (by (with_reducible repeat (first | refine blk_drewN ?_ _ | refine blk_drew ?_ | refine blk_alloc ?_ _)); exact BK370.out)) : gb370 ≠ gb380))
              have n9_ := Aside0.mk ((by rw [hg]; exact Nat.ne_of_gt (blk_lt (g := gb370) (o := .cells #[.bool t367, .string t368, .string t369] 54 (0, 0)) (by (with_reducible repeat (first | refine blk_drewN ?_ _ | refine blk_drew ?_ | refine blk_alloc ?_ _)); exact BK370.out)) : gb380 ≠ gb370))
              clear BK360
              clear BK370
              clear HB
              have BK360 := n0_
              have BK370 := n1_
              have HB := n2_
              have BK380 := n3_
              have GW380 := n4_
              have GE380 := n5_
              have NB360_380 := n6_
              have NB380_360 := n7_
              have NB370_380 := n8_
              have NB380_370 := n9_
              clear n0_ n1_ n2_ n3_ n4_ n5_ n6_ n7_ n8_ n9_
              clear hb hbox hg
              refine hK.out _ _ ⟨(blk_cell BK360.out 0).trans rfl, (blk_cell BK360.out 1).trans rfl, (blk_cell BK360.out 2).trans rfl, (blk_cell BK360.out 3).trans rfl, (blk_cell BK360.out 4).trans rfl, (blk_cell BK360.out 5).trans rfl⟩ (fun hHeld => ?_)
              clear hK K
              refine norm_ (a' := ?_) ?_ ?_
              rotate_left
              · show Act.put _ (some 4) _ = _
                simp only [Act.put, List.setIfInBounds_toArray, List.set_cons_zero, List.set_cons_succ, i64_w, i32_w]
                rfl
              refine one_ (i := 4) (N := some 17) #[true, true, true, true, true, true, false] rfl rfl (by kernel_rfl) (by decide) (fun K hK => ?_)
              refine goes_ Try.func23 (by kernel_rfl) rfl #[.agg #[.bool t371, .string t372, .string t373], .agg #[.bool t374, .string t375, .string t376]] (by rfl) rfl rfl (by (try simp only [List.map_toArray, List.map_cons, List.map_nil]); first | done | rfl | (simp only [List.length_drop, List.length_take]; rfl)) ?_
              with_reducible refine (insolvencyref1_Times.calls k t371 t372 t373 t374 t375 t376 t377 t378 t379 _ A8.out).mono ?_
              rintro e w55 ⟨rfl, hb⟩
              refine ⟨_, rfl, ?_⟩
              have n0_ := Aside0.mk (blk_below (g := gb360) (o := .cells #[.int .i64 a0_0, .int .i64 a0_1, .int .i64 a0_2, .int .i64 a0_3, .int .i64 a0_4, .int .i64 a0_5] 36 (0, 0)) (by (with_reducible repeat (first | refine blk_drewN ?_ _ | refine blk_drew ?_ | refine blk_alloc ?_ _)); exact BK360.out) hb)
              have n1_ := Aside0.mk (blk_below (g := gb370) (o := .cells #[.bool t367, .string t368, .string t369] 54 (0, 0)) (by (with_reducible repeat (first | refine blk_drewN ?_ _ | refine blk_drew ?_ | refine blk_alloc ?_ _)); exact BK370.out) hb)
              have n2_ := Aside0.mk (blk_below (g := gb380) (o := .cells #[.bool false, .string (⟨#[]⟩ : ByteArray), .string (⟨#[]⟩ : ByteArray)] 54 (0, 0)) (by (with_reducible repeat (first | refine blk_drewN ?_ _ | refine blk_drew ?_ | refine blk_alloc ?_ _)); exact BK380.out) hb)
              have n3_ := Aside0.mk (below_step (by repeat (first | (with_reducible first | exact HB.out | apply below_alloc | apply pw_below_drewN | apply below_drew1 | refine below_set ?_ GE360.out | refine below_set ?_ GE370.out | refine below_set ?_ GE380.out) | exact HB.out)) hb)
              clear BK360
              clear BK370
              clear BK380
              clear HB
              have BK360 := n0_
              have BK370 := n1_
              have BK380 := n2_
              have HB := n3_
              clear n0_ n1_ n2_ n3_
              (try clear hb)
              (try clear hb2)
              (try clear hk)
              (try clear hi)
              refine hK.out _ _ ⟨(blk_cell BK360.out 0).trans rfl, (blk_cell BK360.out 1).trans rfl, (blk_cell BK360.out 2).trans rfl, (blk_cell BK360.out 3).trans rfl, (blk_cell BK360.out 4).trans rfl, (blk_cell BK360.out 5).trans rfl⟩ (fun hHeld => ?_)
              clear hK K
              refine norm_ (a' := ?_) ?_ ?_
              rotate_left
              · show Act.put _ (some 17) _ = _
                simp only [Act.put, List.setIfInBounds_toArray, List.set_cons_zero, List.set_cons_succ, i64_w, i32_w]
                rfl
              exact norm_ (by simp only [putAll, Act.put, List.setIfInBounds_toArray, List.set_cons_zero, List.set_cons_succ]) (hCont (gb380) _ ⟨hHeld, (by (with_reducible repeat (first | refine blk_drewN ?_ _ | refine blk_drew ?_ | refine blk_alloc ?_ _)); exact BK360.out), (by (with_reducible repeat (first | refine blk_drewN ?_ _ | refine blk_drew ?_ | refine blk_alloc ?_ _)); exact BK370.out), (by (with_reducible repeat (first | refine blk_drewN ?_ _ | refine blk_drew ?_ | refine blk_alloc ?_ _)); exact BK380.out), GW380.out, GE380.out, NB360_380.out, NB380_360.out, NB370_380.out, NB380_370.out, (by repeat (first | (with_reducible first | exact HB.out | apply below_alloc | apply pw_below_drewN | apply below_drew1 | refine below_set ?_ GE360.out | refine below_set ?_ GE370.out | refine below_set ?_ GE380.out) | exact HB.out))⟩)
          · skip
            refine box_step ?hg (N := 4) ?hd (cs := #[.bool false, .string (⟨#[]⟩ : ByteArray), .string (⟨#[]⟩ : ByteArray)]) (t := 54) ?hr ?_; (case hd => rfl); (case hg => rfl); (case hr => first | (go_simp; done) | (go_simp; rfl))
            intro gb380 hg w53 hbox hb
            have n0_ := Aside0.mk (blk_below (g := gb360) (o := .cells #[.int .i64 a0_0, .int .i64 a0_1, .int .i64 a0_2, .int .i64 a0_3, .int .i64 a0_4, .int .i64 a0_5] 36 (0, 0)) (by (with_reducible repeat (first | refine blk_drewN ?_ _ | refine blk_drew ?_ | refine blk_alloc ?_ _)); exact BK360.out) hb)
            have n1_ := Aside0.mk (blk_below (g := gb370) (o := .cells #[.bool t367, .string t368, .string t369] 54 (0, 0)) (by (with_reducible repeat (first | refine blk_drewN ?_ _ | refine blk_drew ?_ | refine blk_alloc ?_ _)); exact BK370.out) hb)
            have n2_ := Aside0.mk (below_step (by repeat (first | (with_reducible first | exact HB.out | apply below_alloc | apply pw_below_drewN | apply below_drew1 | refine below_set ?_ GE360.out | refine below_set ?_ GE370.out) | exact HB.out)) hb)
            have n3_ := Aside0.mk (hbox)
            have n4_ := Aside0.mk ((by rw [hg]; exact (below_size (by repeat (first | (with_reducible first | exact HB.out | apply below_alloc | apply pw_below_drewN | apply below_drew1 | refine below_set ?_ GE360.out | refine below_set ?_ GE370.out) | exact HB.out))) : w.heap.size ≤ gb380))
            have n5_ := Aside0.mk ((by rw [hg]; exact (below_size (by repeat (first | (with_reducible first | exact HB.out | apply below_alloc | apply pw_below_drewN | apply below_drew1 | refine below_set ?_ GE360.out | refine below_set ?_ GE370.out) | exact HB.out))) : w.heap.size ≤ gb380))
            have n6_ := Aside0.mk ((by rw [hg]; exact Nat.ne_of_lt (blk_lt (g := gb360) (o := .cells #[.int .i64 a0_0, .int .i64 a0_1, .int .i64 a0_2, .int .i64 a0_3, .int .i64 a0_4, .int .i64 a0_5] 36 (0, 0)) (by (with_reducible repeat (first | refine blk_drewN ?_ _ | refine blk_drew ?_ | refine blk_alloc ?_ _)); exact BK360.out)) : gb360 ≠ gb380))
            have n7_ := Aside0.mk ((by rw [hg]; exact Nat.ne_of_gt (blk_lt (g := gb360) (o := .cells #[.int .i64 a0_0, .int .i64 a0_1, .int .i64 a0_2, .int .i64 a0_3, .int .i64 a0_4, .int .i64 a0_5] 36 (0, 0)) (by (with_reducible repeat (first | refine blk_drewN ?_ _ | refine blk_drew ?_ | refine blk_alloc ?_ _)); exact BK360.out)) : gb380 ≠ gb360))
            have n8_ := Aside0.mk ((by rw [hg]; exact Nat.ne_of_lt (blk_lt (g := gb370) (o := .cells #[.bool t367, .string t368, .string t369] 54 (0, 0)) (by (with_reducible repeat (first | refine blk_drewN ?_ _ | refine blk_drew ?_ | refine blk_alloc ?_ _)); exact BK370.out)) : gb370 ≠ gb380))
            have n9_ := Aside0.mk ((by rw [hg]; exact Nat.ne_of_gt (blk_lt (g := gb370) (o := .cells #[.bool t367, .string t368, .string t369] 54 (0, 0)) (by (with_reducible repeat (first | refine blk_drewN ?_ _ | refine blk_drew ?_ | refine blk_alloc ?_ _)); exact BK370.out)) : gb380 ≠ gb370))
            clear BK360
            clear BK370
            clear HB
            have BK360 := n0_
            have BK370 := n1_
            have HB := n2_
            have BK380 := n3_
            have GW380 := n4_
            have GE380 := n5_
            have NB360_380 := n6_
            have NB380_360 := n7_
            have NB370_380 := n8_
            have NB380_370 := n9_
            clear n0_ n1_ n2_ n3_ n4_ n5_ n6_ n7_ n8_ n9_
            clear hb hbox hg
            refine hK.out _ _ ⟨(blk_cell BK360.out 0).trans rfl, (blk_cell BK360.out 1).trans rfl, (blk_cell BK360.out 2).trans rfl, (blk_cell BK360.out 3).trans rfl, (blk_cell BK360.out 4).trans rfl, (blk_cell BK360.out 5).trans rfl⟩ (fun hHeld => ?_)
            clear hK K
            refine norm_ (a' := ?_) ?_ ?_
            rotate_left
            · show Act.put _ (some 4) _ = _
              simp only [Act.put, List.setIfInBounds_toArray, List.set_cons_zero, List.set_cons_succ, i64_w, i32_w]
              rfl
            refine one_ (i := 3) (N := some 16) #[true, true, true, true, false, true, false] rfl rfl (by kernel_rfl) (by decide) (fun K hK => ?_)
            refine goes_ Try.func24 (by kernel_rfl) rfl #[.int .i64 a0_5] (by rfl) rfl rfl (by (try simp only [List.map_toArray, List.map_cons, List.map_nil]); first | done | rfl | (simp only [List.length_drop, List.length_take]; rfl)) ?_
            with_reducible refine (insolvencyref1_Int.calls k a0_5 t374 t375 t376 _ A7.out).mono ?_
            rintro e w54 ⟨rfl, hb⟩
            refine ⟨_, rfl, ?_⟩
            have n0_ := Aside0.mk (blk_below (g := gb360) (o := .cells #[.int .i64 a0_0, .int .i64 a0_1, .int .i64 a0_2, .int .i64 a0_3, .int .i64 a0_4, .int .i64 a0_5] 36 (0, 0)) (by (with_reducible repeat (first | refine blk_drewN ?_ _ | refine blk_drew ?_ | refine blk_alloc ?_ _)); exact BK360.out) hb)
            have n1_ := Aside0.mk (blk_below (g := gb370) (o := .cells #[.bool t367, .string t368, .string t369] 54 (0, 0)) (by (with_reducible repeat (first | refine blk_drewN ?_ _ | refine blk_drew ?_ | refine blk_alloc ?_ _)); exact BK370.out) hb)
            have n2_ := Aside0.mk (blk_below (g := gb380) (o := .cells #[.bool false, .string (⟨#[]⟩ : ByteArray), .string (⟨#[]⟩ : ByteArray)] 54 (0, 0)) (by (with_reducible repeat (first | refine blk_drewN ?_ _ | refine blk_drew ?_ | refine blk_alloc ?_ _)); exact BK380.out) hb)
            have n3_ := Aside0.mk (below_step (by repeat (first | (with_reducible first | exact HB.out | apply below_alloc | apply pw_below_drewN | apply below_drew1 | refine below_set ?_ GE360.out | refine below_set ?_ GE370.out | refine below_set ?_ GE380.out) | exact HB.out)) hb)
            clear BK360
            clear BK370
            clear BK380
            clear HB
            have BK360 := n0_
            have BK370 := n1_
            have BK380 := n2_
            have HB := n3_
            clear n0_ n1_ n2_ n3_
            (try clear hb)
            (try clear hb2)
            (try clear hk)
            (try clear hi)
            refine hK.out _ _ ⟨(blk_cell BK360.out 0).trans rfl, (blk_cell BK360.out 1).trans rfl, (blk_cell BK360.out 2).trans rfl, (blk_cell BK360.out 3).trans rfl, (blk_cell BK360.out 4).trans rfl, (blk_cell BK360.out 5).trans rfl⟩ (fun hHeld => ?_)
            clear hK K
            refine norm_ (a' := ?_) ?_ ?_
            rotate_left
            · show Act.put _ (some 16) _ = _
              simp only [Act.put, List.setIfInBounds_toArray, List.set_cons_zero, List.set_cons_succ, i64_w, i32_w]
              rfl
            refine one_ (i := 4) (N := some 17) #[true, true, true, true, true, true, false] rfl rfl (by kernel_rfl) (by decide) (fun K hK => ?_)
            refine goes_ Try.func23 (by kernel_rfl) rfl #[.agg #[.bool t371, .string t372, .string t373], .agg #[.bool t374, .string t375, .string t376]] (by rfl) rfl rfl (by (try simp only [List.map_toArray, List.map_cons, List.map_nil]); first | done | rfl | (simp only [List.length_drop, List.length_take]; rfl)) ?_
            with_reducible refine (insolvencyref1_Times.calls k t371 t372 t373 t374 t375 t376 t377 t378 t379 _ A8.out).mono ?_
            rintro e w55 ⟨rfl, hb⟩
            refine ⟨_, rfl, ?_⟩
            have n0_ := Aside0.mk (blk_below (g := gb360) (o := .cells #[.int .i64 a0_0, .int .i64 a0_1, .int .i64 a0_2, .int .i64 a0_3, .int .i64 a0_4, .int .i64 a0_5] 36 (0, 0)) (by (with_reducible repeat (first | refine blk_drewN ?_ _ | refine blk_drew ?_ | refine blk_alloc ?_ _)); exact BK360.out) hb)
            have n1_ := Aside0.mk (blk_below (g := gb370) (o := .cells #[.bool t367, .string t368, .string t369] 54 (0, 0)) (by (with_reducible repeat (first | refine blk_drewN ?_ _ | refine blk_drew ?_ | refine blk_alloc ?_ _)); exact BK370.out) hb)
            have n2_ := Aside0.mk (blk_below (g := gb380) (o := .cells #[.bool false, .string (⟨#[]⟩ : ByteArray), .string (⟨#[]⟩ : ByteArray)] 54 (0, 0)) (by (with_reducible repeat (first | refine blk_drewN ?_ _ | refine blk_drew ?_ | refine blk_alloc ?_ _)); exact BK380.out) hb)
            have n3_ := Aside0.mk (below_step (by repeat (first | (with_reducible first | exact HB.out | apply below_alloc | apply pw_below_drewN | apply below_drew1 | refine below_set ?_ GE360.out | refine below_set ?_ GE370.out | refine below_set ?_ GE380.out) | exact HB.out)) hb)
            clear BK360
            clear BK370
            clear BK380
            clear HB
            have BK360 := n0_
            have BK370 := n1_
            have BK380 := n2_
            have HB := n3_
            clear n0_ n1_ n2_ n3_
            (try clear hb)
            (try clear hb2)
            (try clear hk)
            (try clear hi)
            refine hK.out _ _ ⟨(blk_cell BK360.out 0).trans rfl, (blk_cell BK360.out 1).trans rfl, (blk_cell BK360.out 2).trans rfl, (blk_cell BK360.out 3).trans rfl, (blk_cell BK360.out 4).trans rfl, (blk_cell BK360.out 5).trans rfl⟩ (fun hHeld => ?_)
            clear hK K
            refine norm_ (a' := ?_) ?_ ?_
            rotate_left
            · show Act.put _ (some 17) _ = _
              simp only [Act.put, List.setIfInBounds_toArray, List.set_cons_zero, List.set_cons_succ, i64_w, i32_w]
              rfl
            exact norm_ (by simp only [putAll, Act.put, List.setIfInBounds_toArray, List.set_cons_zero, List.set_cons_succ]) (hCont (gb380) _ ⟨hHeld, (by (with_reducible repeat (first | refine blk_drewN ?_ _ | refine blk_drew ?_ | refine blk_alloc ?_ _)); exact BK360.out), (by (with_reducible repeat (first | refine blk_drewN ?_ _ | refine blk_drew ?_ | refine blk_alloc ?_ _)); exact BK370.out), (by (with_reducible repeat (first | refine blk_drewN ?_ _ | refine blk_drew ?_ | refine blk_alloc ?_ _)); exact BK380.out), GW380.out, GE380.out, NB360_380.out, NB380_360.out, NB370_380.out, NB380_370.out, (by repeat (first | (with_reducible first | exact HB.out | apply below_alloc | apply pw_below_drewN | apply below_drew1 | refine below_set ?_ GE360.out | refine below_set ?_ GE370.out | refine below_set ?_ GE380.out) | exact HB.out))⟩)
        · skip
          refine box_step ?hg (N := 4) ?hd (cs := #[.bool false, .string (⟨#[]⟩ : ByteArray), .string (⟨#[]⟩ : ByteArray)]) (t := 54) ?hr ?_; (case hd => rfl); (case hg => rfl); (case hr => first | (go_simp; done) | (go_simp; rfl))
          intro gb380 hg w52 hbox hb
          have n0_ := Aside0.mk (blk_below (g := gb360) (o := .cells #[.int .i64 a0_0, .int .i64 a0_1, .int .i64 a0_2, .int .i64 a0_3, .int .i64 a0_4, .int .i64 a0_5] 36 (0, 0)) (by (with_reducible repeat (first | refine blk_drewN ?_ _ | refine blk_drew ?_ | refine blk_alloc ?_ _)); exact BK360.out) hb)
          have n1_ := Aside0.mk (blk_below (g := gb370) (o := .cells #[.bool t367, .string t368, .string t369] 54 (0, 0)) (by (with_reducible repeat (first | refine blk_drewN ?_ _ | refine blk_drew ?_ | refine blk_alloc ?_ _)); exact BK370.out) hb)
          have n2_ := Aside0.mk (below_step (by repeat (first | (with_reducible first | exact HB.out | apply below_alloc | apply pw_below_drewN | apply below_drew1 | refine below_set ?_ GE360.out | refine below_set ?_ GE370.out) | exact HB.out)) hb)
          have n3_ := Aside0.mk (hbox)
          have n4_ := Aside0.mk ((by rw [hg]; exact (below_size (by repeat (first | (with_reducible first | exact HB.out | apply below_alloc | apply pw_below_drewN | apply below_drew1 | refine below_set ?_ GE360.out | refine below_set ?_ GE370.out) | exact HB.out))) : w.heap.size ≤ gb380))
          have n5_ := Aside0.mk ((by rw [hg]; exact (below_size (by repeat (first | (with_reducible first | exact HB.out | apply below_alloc | apply pw_below_drewN | apply below_drew1 | refine below_set ?_ GE360.out | refine below_set ?_ GE370.out) | exact HB.out))) : w.heap.size ≤ gb380))
          have n6_ := Aside0.mk ((by rw [hg]; exact Nat.ne_of_lt (blk_lt (g := gb360) (o := .cells #[.int .i64 a0_0, .int .i64 a0_1, .int .i64 a0_2, .int .i64 a0_3, .int .i64 a0_4, .int .i64 a0_5] 36 (0, 0)) (by (with_reducible repeat (first | refine blk_drewN ?_ _ | refine blk_drew ?_ | refine blk_alloc ?_ _)); exact BK360.out)) : gb360 ≠ gb380))
          have n7_ := Aside0.mk ((by rw [hg]; exact Nat.ne_of_gt (blk_lt (g := gb360) (o := .cells #[.int .i64 a0_0, .int .i64 a0_1, .int .i64 a0_2, .int .i64 a0_3, .int .i64 a0_4, .int .i64 a0_5] 36 (0, 0)) (by (with_reducible repeat (first | refine blk_drewN ?_ _ | refine blk_drew ?_ | refine blk_alloc ?_ _)); exact BK360.out)) : gb380 ≠ gb360))
          have n8_ := Aside0.mk ((by rw [hg]; exact Nat.ne_of_lt (blk_lt (g := gb370) (o := .cells #[.bool t367, .string t368, .string t369] 54 (0, 0)) (by (with_reducible repeat (first | refine blk_drewN ?_ _ | refine blk_drew ?_ | refine blk_alloc ?_ _)); exact BK370.out)) : gb370 ≠ gb380))
          have n9_ := Aside0.mk ((by rw [hg]; exact Nat.ne_of_gt (blk_lt (g := gb370) (o := .cells #[.bool t367, .string t368, .string t369] 54 (0, 0)) (by (with_reducible repeat (first | refine blk_drewN ?_ _ | refine blk_drew ?_ | refine blk_alloc ?_ _)); exact BK370.out)) : gb380 ≠ gb370))
          clear BK360
          clear BK370
          clear HB
          have BK360 := n0_
          have BK370 := n1_
          have HB := n2_
          have BK380 := n3_
          have GW380 := n4_
          have GE380 := n5_
          have NB360_380 := n6_
          have NB380_360 := n7_
          have NB370_380 := n8_
          have NB380_370 := n9_
          clear n0_ n1_ n2_ n3_ n4_ n5_ n6_ n7_ n8_ n9_
          clear hb hbox hg
          refine hK.out _ _ ⟨(blk_cell BK360.out 0).trans rfl, (blk_cell BK360.out 1).trans rfl, (blk_cell BK360.out 2).trans rfl, (blk_cell BK360.out 3).trans rfl, (blk_cell BK360.out 4).trans rfl, (blk_cell BK360.out 5).trans rfl⟩ (fun hHeld => ?_)
          clear hK K
          refine norm_ (a' := ?_) ?_ ?_
          rotate_left
          · show Act.put _ (some 4) _ = _
            simp only [Act.put, List.setIfInBounds_toArray, List.set_cons_zero, List.set_cons_succ, i64_w, i32_w]
            rfl
          refine one_ (i := 0) (N := some 13) #[true, true, true, false, false, true, false] rfl rfl (by kernel_rfl) (by decide) (fun K hK => ?_)
          refine goes_ Try.func24 (by kernel_rfl) rfl #[.int .i64 9] (by rfl) rfl rfl (by (try simp only [List.map_toArray, List.map_cons, List.map_nil]); first | done | rfl | (simp only [List.length_drop, List.length_take]; rfl)) ?_
          with_reducible refine (insolvencyref1_Int.calls k 9 t371 t372 t373 _ A6.out).mono ?_
          rintro e w53 ⟨rfl, hb⟩
          refine ⟨_, rfl, ?_⟩
          have n0_ := Aside0.mk (blk_below (g := gb360) (o := .cells #[.int .i64 a0_0, .int .i64 a0_1, .int .i64 a0_2, .int .i64 a0_3, .int .i64 a0_4, .int .i64 a0_5] 36 (0, 0)) (by (with_reducible repeat (first | refine blk_drewN ?_ _ | refine blk_drew ?_ | refine blk_alloc ?_ _)); exact BK360.out) hb)
          have n1_ := Aside0.mk (blk_below (g := gb370) (o := .cells #[.bool t367, .string t368, .string t369] 54 (0, 0)) (by (with_reducible repeat (first | refine blk_drewN ?_ _ | refine blk_drew ?_ | refine blk_alloc ?_ _)); exact BK370.out) hb)
          have n2_ := Aside0.mk (blk_below (g := gb380) (o := .cells #[.bool false, .string (⟨#[]⟩ : ByteArray), .string (⟨#[]⟩ : ByteArray)] 54 (0, 0)) (by (with_reducible repeat (first | refine blk_drewN ?_ _ | refine blk_drew ?_ | refine blk_alloc ?_ _)); exact BK380.out) hb)
          have n3_ := Aside0.mk (below_step (by repeat (first | (with_reducible first | exact HB.out | apply below_alloc | apply pw_below_drewN | apply below_drew1 | refine below_set ?_ GE360.out | refine below_set ?_ GE370.out | refine below_set ?_ GE380.out) | exact HB.out)) hb)
          clear BK360
          clear BK370
          clear BK380
          clear HB
          have BK360 := n0_
          have BK370 := n1_
          have BK380 := n2_
          have HB := n3_
          clear n0_ n1_ n2_ n3_
          (try clear hb)
          (try clear hb2)
          (try clear hk)
          (try clear hi)
          refine hK.out _ _ ⟨(blk_cell BK360.out 0).trans rfl, (blk_cell BK360.out 1).trans rfl, (blk_cell BK360.out 2).trans rfl, (blk_cell BK360.out 3).trans rfl, (blk_cell BK360.out 4).trans rfl, (blk_cell BK360.out 5).trans rfl⟩ (fun hHeld => ?_)
          clear hK K
          refine norm_ (a' := ?_) ?_ ?_
          rotate_left
          · show Act.put _ (some 13) _ = _
            simp only [Act.put, List.setIfInBounds_toArray, List.set_cons_zero, List.set_cons_succ, i64_w, i32_w]
            rfl
          refine one_ (i := 3) (N := some 16) #[true, true, true, true, false, true, false] rfl rfl (by kernel_rfl) (by decide) (fun K hK => ?_)
          refine goes_ Try.func24 (by kernel_rfl) rfl #[.int .i64 a0_5] (by rfl) rfl rfl (by (try simp only [List.map_toArray, List.map_cons, List.map_nil]); first | done | rfl | (simp only [List.length_drop, List.length_take]; rfl)) ?_
          with_reducible refine (insolvencyref1_Int.calls k a0_5 t374 t375 t376 _ A7.out).mono ?_
          rintro e w54 ⟨rfl, hb⟩
          refine ⟨_, rfl, ?_⟩
          have n0_ := Aside0.mk (blk_below (g := gb360) (o := .cells #[.int .i64 a0_0, .int .i64 a0_1, .int .i64 a0_2, .int .i64 a0_3, .int .i64 a0_4, .int .i64 a0_5] 36 (0, 0)) (by (with_reducible repeat (first | refine blk_drewN ?_ _ | refine blk_drew ?_ | refine blk_alloc ?_ _)); exact BK360.out) hb)
          have n1_ := Aside0.mk (blk_below (g := gb370) (o := .cells #[.bool t367, .string t368, .string t369] 54 (0, 0)) (by (with_reducible repeat (first | refine blk_drewN ?_ _ | refine blk_drew ?_ | refine blk_alloc ?_ _)); exact BK370.out) hb)
          have n2_ := Aside0.mk (blk_below (g := gb380) (o := .cells #[.bool false, .string (⟨#[]⟩ : ByteArray), .string (⟨#[]⟩ : ByteArray)] 54 (0, 0)) (by (with_reducible repeat (first | refine blk_drewN ?_ _ | refine blk_drew ?_ | refine blk_alloc ?_ _)); exact BK380.out) hb)
          have n3_ := Aside0.mk (below_step (by repeat (first | (with_reducible first | exact HB.out | apply below_alloc | apply pw_below_drewN | apply below_drew1 | refine below_set ?_ GE360.out | refine below_set ?_ GE370.out | refine below_set ?_ GE380.out) | exact HB.out)) hb)
          clear BK360
          clear BK370
          clear BK380
          clear HB
          have BK360 := n0_
          have BK370 := n1_
          have BK380 := n2_
          have HB := n3_
          clear n0_ n1_ n2_ n3_
          (try clear hb)
          (try clear hb2)
          (try clear hk)
          (try clear hi)
          refine hK.out _ _ ⟨(blk_cell BK360.out 0).trans rfl, (blk_cell BK360.out 1).trans rfl, (blk_cell BK360.out 2).trans rfl, (blk_cell BK360.out 3).trans rfl, (blk_cell BK360.out 4).trans rfl, (blk_cell BK360.out 5).trans rfl⟩ (fun hHeld => ?_)
          clear hK K
          refine norm_ (a' := ?_) ?_ ?_
          rotate_left
          · show Act.put _ (some 16) _ = _
            simp only [Act.put, List.setIfInBounds_toArray, List.set_cons_zero, List.set_cons_succ, i64_w, i32_w]
            rfl
          refine one_ (i := 4) (N := some 17) #[true, true, true, true, true, true, false] rfl rfl (by kernel_rfl) (by decide) (fun K hK => ?_)
          refine goes_ Try.func23 (by kernel_rfl) rfl #[.agg #[.bool t371, .string t372, .string t373], .agg #[.bool t374, .string t375, .string t376]] (by rfl) rfl rfl (by (try simp only [List.map_toArray, List.map_cons, List.map_nil]); first | done | rfl | (simp only [List.length_drop, List.length_take]; rfl)) ?_
          with_reducible refine (insolvencyref1_Times.calls k t371 t372 t373 t374 t375 t376 t377 t378 t379 _ A8.out).mono ?_
          rintro e w55 ⟨rfl, hb⟩
          refine ⟨_, rfl, ?_⟩
          have n0_ := Aside0.mk (blk_below (g := gb360) (o := .cells #[.int .i64 a0_0, .int .i64 a0_1, .int .i64 a0_2, .int .i64 a0_3, .int .i64 a0_4, .int .i64 a0_5] 36 (0, 0)) (by (with_reducible repeat (first | refine blk_drewN ?_ _ | refine blk_drew ?_ | refine blk_alloc ?_ _)); exact BK360.out) hb)
          have n1_ := Aside0.mk (blk_below (g := gb370) (o := .cells #[.bool t367, .string t368, .string t369] 54 (0, 0)) (by (with_reducible repeat (first | refine blk_drewN ?_ _ | refine blk_drew ?_ | refine blk_alloc ?_ _)); exact BK370.out) hb)
          have n2_ := Aside0.mk (blk_below (g := gb380) (o := .cells #[.bool false, .string (⟨#[]⟩ : ByteArray), .string (⟨#[]⟩ : ByteArray)] 54 (0, 0)) (by (with_reducible repeat (first | refine blk_drewN ?_ _ | refine blk_drew ?_ | refine blk_alloc ?_ _)); exact BK380.out) hb)
          have n3_ := Aside0.mk (below_step (by repeat (first | (with_reducible first | exact HB.out | apply below_alloc | apply pw_below_drewN | apply below_drew1 | refine below_set ?_ GE360.out | refine below_set ?_ GE370.out | refine below_set ?_ GE380.out) | exact HB.out)) hb)
          clear BK360
          clear BK370
          clear BK380
          clear HB
          have BK360 := n0_
          have BK370 := n1_
          have BK380 := n2_
          have HB := n3_
          clear n0_ n1_ n2_ n3_
          (try clear hb)
          (try clear hb2)
          (try clear hk)
          (try clear hi)
          refine hK.out _ _ ⟨(blk_cell BK360.out 0).trans rfl, (blk_cell BK360.out 1).trans rfl, (blk_cell BK360.out 2).trans rfl, (blk_cell BK360.out 3).trans rfl, (blk_cell BK360.out 4).trans rfl, (blk_cell BK360.out 5).trans rfl⟩ (fun hHeld => ?_)
          clear hK K
          refine norm_ (a' := ?_) ?_ ?_
          rotate_left
          · show Act.put _ (some 17) _ = _
            simp only [Act.put, List.setIfInBounds_toArray, List.set_cons_zero, List.set_cons_succ, i64_w, i32_w]
            rfl
          exact norm_ (by simp only [putAll, Act.put, List.setIfInBounds_toArray, List.set_cons_zero, List.set_cons_succ]) (hCont (gb380) _ ⟨hHeld, (by (with_reducible repeat (first | refine blk_drewN ?_ _ | refine blk_drew ?_ | refine blk_alloc ?_ _)); exact BK360.out), (by (with_reducible repeat (first | refine blk_drewN ?_ _ | refine blk_drew ?_ | refine blk_alloc ?_ _)); exact BK370.out), (by (with_reducible repeat (first | refine blk_drewN ?_ _ | refine blk_drew ?_ | refine blk_alloc ?_ _)); exact BK380.out), GW380.out, GE380.out, NB360_380.out, NB380_360.out, NB370_380.out, NB380_370.out, (by repeat (first | (with_reducible first | exact HB.out | apply below_alloc | apply pw_below_drewN | apply below_drew1 | refine below_set ?_ GE360.out | refine below_set ?_ GE370.out | refine below_set ?_ GE380.out) | exact HB.out))⟩)
      rintro gb380 w56 ⟨hS_, h0_, h1_, h2_, h3_, h4_, h5_, h6_, h7_, h8_, h9_⟩
      have n0_ : Aside0 (w56.heap[gb360]? = some (.cells #[.int .i64 a0_0, .int .i64 a0_1, .int .i64 a0_2, .int .i64 a0_3, .int .i64 a0_4, .int .i64 a0_5] 36 (0, 0))) := ⟨h0_⟩
      have n1_ : Aside0 (w56.heap[gb370]? = some (.cells #[.bool t367, .string t368, .string t369] 54 (0, 0))) := ⟨h1_⟩
      have n2_ : Aside0 (w56.heap[gb380]? = some (.cells #[.bool false, .string (⟨#[]⟩ : ByteArray), .string (⟨#[]⟩ : ByteArray)] 54 (0, 0))) := ⟨h2_⟩
      have n3_ : Aside0 (w.heap.size ≤ gb380) := ⟨h3_⟩
      have n4_ : Aside0 (w.heap.size ≤ gb380) := ⟨h4_⟩
      have n5_ : Aside0 (gb360 ≠ gb380) := ⟨h5_⟩
      have n6_ : Aside0 (gb380 ≠ gb360) := ⟨h6_⟩
      have n7_ : Aside0 (gb370 ≠ gb380) := ⟨h7_⟩
      have n8_ : Aside0 (gb380 ≠ gb370) := ⟨h8_⟩
      have n9_ : Aside0 (Below w.heap.size w w56) := ⟨h9_⟩
      clear BK360
      clear BK370
      clear HB
      clear h0_ h1_ h2_ h3_ h4_ h5_ h6_ h7_ h8_ h9_
      have BK360 := n0_
      have BK370 := n1_
      have BK380 := n2_
      have GW380 := n3_
      have GE380 := n4_
      have NB360_380 := n5_
      have NB380_360 := n6_
      have NB370_380 := n7_
      have NB380_370 := n8_
      have HB := n9_
      clear n0_ n1_ n2_ n3_ n4_ n5_ n6_ n7_ n8_ n9_
      have hHeld : w56.cell? ⟨gb360, 0, none⟩ = some (.int .i64 a0_0) ∧ w56.cell? ⟨gb360, 1, none⟩ = some (.int .i64 a0_1) ∧ w56.cell? ⟨gb360, 2, none⟩ = some (.int .i64 a0_2) ∧ w56.cell? ⟨gb360, 3, none⟩ = some (.int .i64 a0_3) ∧ w56.cell? ⟨gb360, 4, none⟩ = some (.int .i64 a0_4) ∧ w56.cell? ⟨gb360, 5, none⟩ = some (.int .i64 a0_5) := hS_
      refine norm_ (a' := ?_) ?_ ?_
      rotate_left
      · simp only [putAll, Act.put, List.setIfInBounds_toArray, List.set_cons_zero, List.set_cons_succ]
        rfl
      refine one_ (i := 6) (N := none) #[true, true, true, true, true, true, true] rfl rfl (by kernel_rfl) (by decide) (fun K hK => ?_)
      have hs57 : w56.cell? ⟨gb380, 0, none⟩ = some (.bool false) := (blk_cell BK380.out 0).trans rfl
      have hfs57 := blk_frozen BK380.out 0
      have hns57_0 := NB360_380.out
      have hns57_1 := NB370_380.out
      have hms57_0 := NB380_360.out
      have hms57_1 := NB380_370.out
      have hs58 : w56.cell? ⟨gb380, 1, none⟩ = some (.string (⟨#[]⟩ : ByteArray)) := (blk_cell BK380.out 1).trans rfl
      have hfs58 := blk_frozen BK380.out 1
      have hns58_0 := NB360_380.out
      have hns58_1 := NB370_380.out
      have hms58_0 := NB380_360.out
      have hms58_1 := NB380_370.out
      have hs59 : w56.cell? ⟨gb380, 2, none⟩ = some (.string (⟨#[]⟩ : ByteArray)) := (blk_cell BK380.out 2).trans rfl
      have hfs59 := blk_frozen BK380.out 2
      have hns59_0 := NB360_380.out
      have hns59_1 := NB370_380.out
      have hms59_0 := NB380_360.out
      have hms59_1 := NB380_370.out
      refine skip_ (w1 := ?_) (by rfl) rfl ?_ ?_
      rotate_left
      · go_simp
        rfl
      refine hK.out _ _ ⟨((cell_far (p := ⟨gb380, _, none⟩) NB360_380.out _).trans (((cell_far (p := ⟨gb380, _, none⟩) NB360_380.out _).trans (((cell_far (p := ⟨gb380, _, none⟩) NB360_380.out _).trans (hHeld.1)))))), ((cell_far (p := ⟨gb380, _, none⟩) NB360_380.out _).trans (((cell_far (p := ⟨gb380, _, none⟩) NB360_380.out _).trans (((cell_far (p := ⟨gb380, _, none⟩) NB360_380.out _).trans (hHeld.2.1)))))), ((cell_far (p := ⟨gb380, _, none⟩) NB360_380.out _).trans (((cell_far (p := ⟨gb380, _, none⟩) NB360_380.out _).trans (((cell_far (p := ⟨gb380, _, none⟩) NB360_380.out _).trans (hHeld.2.2.1)))))), ((cell_far (p := ⟨gb380, _, none⟩) NB360_380.out _).trans (((cell_far (p := ⟨gb380, _, none⟩) NB360_380.out _).trans (((cell_far (p := ⟨gb380, _, none⟩) NB360_380.out _).trans (hHeld.2.2.2.1)))))), ((cell_far (p := ⟨gb380, _, none⟩) NB360_380.out _).trans (((cell_far (p := ⟨gb380, _, none⟩) NB360_380.out _).trans (((cell_far (p := ⟨gb380, _, none⟩) NB360_380.out _).trans (hHeld.2.2.2.2.1)))))), ((cell_far (p := ⟨gb380, _, none⟩) NB360_380.out _).trans (((cell_far (p := ⟨gb380, _, none⟩) NB360_380.out _).trans (((cell_far (p := ⟨gb380, _, none⟩) NB360_380.out _).trans (hHeld.2.2.2.2.2))))))⟩ (fun hHeld => ?_)
      clear hK K
      refine done_ (by kernel_rfl) ?_
      have hnb60 := NB370_360.out
      have hnc60 := NB360_370.out
      have hnb61 := NB370_380.out
      have hnc61 := NB380_370.out
      have hcz62_0 : w56.cell? ⟨gb370, 0, none⟩ = some (.bool t367) := (blk_cell BK370.out 0).trans rfl
      have hcz62_1 : w56.cell? ⟨gb370, 1, none⟩ = some (.string t368) := (blk_cell BK370.out 1).trans rfl
      have hcz62_2 : w56.cell? ⟨gb370, 2, none⟩ = some (.string t369) := (blk_cell BK370.out 2).trans rfl
      have hfz62_0 := blk_frozen BK370.out 0
      have hfz62_1 := blk_frozen BK370.out 1
      have hfz62_2 := blk_frozen BK370.out 2
      have hnb63 := NB380_360.out
      have hnc63 := NB360_380.out
      have hcz64_0 : w56.cell? ⟨gb380, 0, none⟩ = some (.bool false) := (blk_cell BK380.out 0).trans rfl
      have hcz64_1 : w56.cell? ⟨gb380, 1, none⟩ = some (.string (⟨#[]⟩ : ByteArray)) := (blk_cell BK380.out 1).trans rfl
      have hcz64_2 : w56.cell? ⟨gb380, 2, none⟩ = some (.string (⟨#[]⟩ : ByteArray)) := (blk_cell BK380.out 2).trans rfl
      have hfz64_0 := blk_frozen BK380.out 0
      have hfz64_1 := blk_frozen BK380.out 1
      have hfz64_2 := blk_frozen BK380.out 2
      try go_wp2_with (first | ((with_reducible refine gate_callee (f := 25) rfl ?_); refine goesL_ (some 20) rfl rfl Try.func25 (by kernel_rfl) rfl #[.agg #[.bool t367, .string t368, .string t369], .agg #[.bool t377, .string t378, .string t379]] rfl (by (try simp only [List.map_toArray, List.map_cons, List.map_nil]); first | done | rfl | (simp only [List.length_drop, List.length_take]; rfl)) ?_; (with_reducible refine (insolvencyref1_Less.calls k t367 t368 t369 t377 t378 t379 false _ A9.out).mono ?_); rintro e w65 ⟨rfl, hb⟩; refine ⟨_, rfl, ?_⟩; have n0_ := Aside0.mk (blk_below (g := gb360) (o := .cells #[.int .i64 a0_0, .int .i64 a0_1, .int .i64 a0_2, .int .i64 a0_3, .int .i64 a0_4, .int .i64 a0_5] 36 (0, 0)) (by (with_reducible repeat (first | refine blk_drewN ?_ _ | refine blk_drew ?_ | refine blk_alloc ?_ _)); refine blk_far ?_ NB360_380.out _; (with_reducible repeat (first | refine blk_drewN ?_ _ | refine blk_drew ?_ | refine blk_alloc ?_ _)); refine blk_far ?_ NB360_380.out _; (with_reducible repeat (first | refine blk_drewN ?_ _ | refine blk_drew ?_ | refine blk_alloc ?_ _)); refine blk_far ?_ NB360_380.out _; (with_reducible repeat (first | refine blk_drewN ?_ _ | refine blk_drew ?_ | refine blk_alloc ?_ _)); exact BK360.out) hb); have n1_ := Aside0.mk (blk_below (g := gb370) (o := .cells #[.bool t367, .string t368, .string t369] 54 (0, 0)) (by (with_reducible repeat (first | refine blk_drewN ?_ _ | refine blk_drew ?_ | refine blk_alloc ?_ _)); refine blk_far ?_ NB370_380.out _; (with_reducible repeat (first | refine blk_drewN ?_ _ | refine blk_drew ?_ | refine blk_alloc ?_ _)); refine blk_far ?_ NB370_380.out _; (with_reducible repeat (first | refine blk_drewN ?_ _ | refine blk_drew ?_ | refine blk_alloc ?_ _)); refine blk_far ?_ NB370_380.out _; (with_reducible repeat (first | refine blk_drewN ?_ _ | refine blk_drew ?_ | refine blk_alloc ?_ _)); exact BK370.out) hb); have n2_ := Aside0.mk (blk_below (g := gb380) (o := .cells #[.bool t377, .string t378, .string t379] 54 (0, 0)) (by (with_reducible repeat (first | refine blk_drewN ?_ _ | refine blk_drew ?_ | refine blk_alloc ?_ _)); refine blk_put (cs := #[.bool t377, .string t378, .string (⟨#[]⟩ : ByteArray)]) ?_ 2 _ rfl; (with_reducible repeat (first | refine blk_drewN ?_ _ | refine blk_drew ?_ | refine blk_alloc ?_ _)); refine blk_put (cs := #[.bool t377, .string (⟨#[]⟩ : ByteArray), .string (⟨#[]⟩ : ByteArray)]) ?_ 1 _ rfl; (with_reducible repeat (first | refine blk_drewN ?_ _ | refine blk_drew ?_ | refine blk_alloc ?_ _)); refine blk_put (cs := #[.bool false, .string (⟨#[]⟩ : ByteArray), .string (⟨#[]⟩ : ByteArray)]) ?_ 0 _ rfl; (with_reducible repeat (first | refine blk_drewN ?_ _ | refine blk_drew ?_ | refine blk_alloc ?_ _)); exact BK380.out) hb); have n3_ := Aside0.mk (below_step (by repeat (first | (with_reducible first | exact HB.out | apply below_alloc | apply pw_below_drewN | apply below_drew1 | refine below_set ?_ GE360.out | refine below_set ?_ GE370.out | refine below_set ?_ GE380.out) | exact HB.out)) hb); clear BK360; clear BK370; clear BK380; clear HB; have BK360 := n0_; have BK370 := n1_; have BK380 := n2_; have HB := n3_; clear n0_ n1_ n2_ n3_; (try clear hb); (try clear hb2); (try clear hk); (try clear hi)))
      go_ret
      exact ⟨by first | rfl | (simp [errW_none, errW_some] <;> rfl) | (simp [*, errW_none, errW_some] <;> rfl), by repeat (first | (with_reducible first | exact HB.out | apply below_alloc | apply pw_below_drewN | apply below_drew1 | refine below_set ?_ GE360.out | refine below_set ?_ GE370.out | refine below_set ?_ GE380.out) | exact HB.out)⟩
  · rw [if_neg c2] at H
    have c2b0 : (a0_1 == 3) = false := beq_eq_false_iff_ne.mpr c2
    have c2b1 : (a0_1 != 3) = true := bne_iff_ne.mpr c2
    obtain rfl := Option.some.inj H
    go_enter Try.func16, Try.ntmps16
    go_wp2_with (first | ((with_reducible refine gate_dst (N := 1) rfl ?_); refine box_event ?hg (N := 1) ?hd (cs := #[.int .i64 a0_0, .int .i64 a0_1, .int .i64 a0_2, .int .i64 a0_3, .int .i64 a0_4, .int .i64 a0_5]) (t := 36) ?hr ?_; (case hd => rfl); (case hg => rfl); (case hr => first | (go_simp; done) | (go_simp; rfl)); intro gb360 hg w66 hbox hb; have n0_ := Aside0.mk (below_step (by repeat (first | (with_reducible first | exact HB.out | apply below_alloc | apply pw_below_drewN | apply below_drew1) | exact HB.out)) hb); have n1_ := Aside0.mk (hbox); have n2_ := Aside0.mk ((by rw [hg]; exact (below_size (by repeat (first | (with_reducible first | exact HB.out | apply below_alloc | apply pw_below_drewN | apply below_drew1) | exact HB.out))) : w.heap.size ≤ gb360)); have n3_ := Aside0.mk ((by rw [hg]; exact (below_size (by repeat (first | (with_reducible first | exact HB.out | apply below_alloc | apply pw_below_drewN | apply below_drew1) | exact HB.out))) : w.heap.size ≤ gb360)); clear HB; have HB := n0_; have BK360 := n1_; have GW360 := n2_; have GE360 := n3_; clear n0_ n1_ n2_ n3_; clear hb hbox hg; have hcz67_0 : w66.cell? ⟨gb360, 0, none⟩ = some (.int .i64 a0_0) := (blk_cell BK360.out 0).trans rfl; have hcz67_1 : w66.cell? ⟨gb360, 1, none⟩ = some (.int .i64 a0_1) := (blk_cell BK360.out 1).trans rfl; have hcz67_2 : w66.cell? ⟨gb360, 2, none⟩ = some (.int .i64 a0_2) := (blk_cell BK360.out 2).trans rfl; have hcz67_3 : w66.cell? ⟨gb360, 3, none⟩ = some (.int .i64 a0_3) := (blk_cell BK360.out 3).trans rfl; have hcz67_4 : w66.cell? ⟨gb360, 4, none⟩ = some (.int .i64 a0_4) := (blk_cell BK360.out 4).trans rfl; have hcz67_5 : w66.cell? ⟨gb360, 5, none⟩ = some (.int .i64 a0_5) := (blk_cell BK360.out 5).trans rfl; have hfz67_0 := blk_frozen BK360.out 0; have hfz67_1 := blk_frozen BK360.out 1; have hfz67_2 := blk_frozen BK360.out 2; have hfz67_3 := blk_frozen BK360.out 3; have hfz67_4 := blk_frozen BK360.out 4; have hfz67_5 := blk_frozen BK360.out 5))
    go_ret
    exact ⟨by first | rfl | (simp [errW_none, errW_some] <;> rfl) | (simp [*, errW_none, errW_some] <;> rfl), by repeat (first | (with_reducible first | exact HB.out | apply below_alloc | apply pw_below_drewN | apply below_drew1 | refine below_set ?_ GE360.out) | exact HB.out)⟩

end Go.Proofs.Ytljenpakncmlkaa.PAll
