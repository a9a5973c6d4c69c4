/- The tracer's move, walked by hand: a row's two parties in turn. -/
import Derived.Test.YtljenpakncmlkaaTracerClip
import Derived.Test.YtljenpakncmlkaaPAllx2
namespace Go.Proofs.Ytljenpakncmlkaa.Tr
open Go.RowKit Go.Proofs.YtljenpakncmlkaaW.PrintWords Go.Proofs.YtljenpakncmlkaaW.PrintLast Go.Proofs.YtljenpakncmlkaaW.PrintMore Go.Proofs.Ytljenpakncmlkaa.PAll
attribute [local go_sem] max2_int min2_int max_two min_two
set_option linter.unusedSimpArgs false

/-- What a row moves for a party. -/
def mon (f1 f2 f3 f4 p : Int) : Int :=
  let x := if f1 = 1 then f4 else if f1 = 3 then wrap64 (-f4) else 0
  if f3 = p then (if f2 = p then wrap64 (wrap64 (0 + x) - x) else wrap64 (0 + x)) else (if f2 = p then wrap64 (-x) else 0)
theorem mon_eq (f0 f1 f2 f3 f4 f5 p : Int) : history_Money.f 1 f0 f1 f2 f3 f4 f5 p = some (mon f1 f2 f3 f4 p) := by
  unfold history_Money.f mon
  simp only [history_Money.j0]
  split
  · split <;> split <;> rfl
  · split
    · split <;> split <;> rfl
    · split <;> split <;> rfl
def mv1 (f1 f2 f3 f4 : Int) (bal : List Int) (p : Int) : List Int := bal.set p.toNat (wrap64 (rd bal p + mon f1 f2 f3 f4 p))
def mvF (f1 f2 f3 f4 : Int) (bal : List Int) : Nat → List Int
  | 0 => bal
  | 1 => mv1 f1 f2 f3 f4 bal f2
  | _ => mv1 f1 f2 f3 f4 (mv1 f1 f2 f3 f4 bal f2) f3

@[local go_sem] theorem idx0 (a b : Int) (w : World) : Sem.run Try.prog (Instr.index 60 (.agg #[.int .i64 a, .int .i64 b]) (.int .i64 0)) w = .ok (.int .i64 a) w := by kernel_rfl
@[local go_sem] theorem idx1 (a b : Int) (w : World) : Sem.run Try.prog (Instr.index 60 (.agg #[.int .i64 a, .int .i64 b]) (.int .i64 1)) w = .ok (.int .i64 b) w := by kernel_rfl
set_option maxHeartbeats 4000000 in
set_option maxRecDepth 100000 in
theorem move (w : World) {base gt g1 g2 n c1 c2 : Nat} {bal tr : List Int} {lost : Int} (st : St w base gt g1 g2 n c1 c2 bal tr lost) (f0 f1 f2 f3 f4 f5 : Int) (p0 : 0 ≤ f2) (p1 : f2 < n) (q0 : 0 ≤ f3) (q1 : f3 < n) :
    Calls Try.prog 20 #[.pointer (some ⟨gt, 0, none⟩), .agg #[.int .i64 f0, .int .i64 f1, .int .i64 f2, .int .i64 f3, .int .i64 f4, .int .i64 f5]] w fun e w' => e = .returned (.tuple #[]) ∧
      St w' base gt g1 g2 n c1 c2 (mvF f1 f2 f3 f4 bal 2) tr lost ∧ Kp gt g1 g2 w w' := by
  have hu1 := Try.underlying49
  have hu2 := Try.underlying36
  have ltg := blk_lt st.blk
  go_enter Try.func20, Try.ntmps20
  go_wp2_with (first | ((with_reducible refine gate_dst (N := 3) rfl ?_); refine box_event ?hg (N := 3) ?hd (cs := #[.int .i64 f0, .int .i64 f1, .int .i64 f2, .int .i64 f3, .int .i64 f4, .int .i64 f5]) (t := 36) ?hr ?_; (case hd => rfl); (case hg => rfl); (case hr => first | (go_simp; done) | (go_simp; rfl)); intro gb hg w4 hbox hb; have ST := Aside0.mk (st.below hb); have BK := Aside0.mk hbox; have KP := Aside0.mk (Kp.of_below (gt := gt) (g1 := g1) (g2 := g2) hb); have gbne : gb ≠ g1 := (by have h1 := own_lt st.ob g1 rfl; rw [hg]; omega); clear hb hbox hg; have hcz0 : w4.cell? ⟨gb, 0, none⟩ = some (.int .i64 f0) := (blk_cell BK.out 0).trans rfl; have hcz2 : w4.cell? ⟨gb, 2, none⟩ = some (.int .i64 f2) := (blk_cell BK.out 2).trans rfl; have hcz3 : w4.cell? ⟨gb, 3, none⟩ = some (.int .i64 f3) := (blk_cell BK.out 3).trans rfl))
  clear hcz0 hcz2 hcz3
  go_loopg [11] 2 (fun kq v11 w' => ∃ i : Nat, Aside0 (kq = 2 - i) ∧ Aside0 (i ≤ 2) ∧ v11 = .int .i64 (i : Int) ∧ Aside0 (St w' base gt g1 g2 n c1 c2 (mvF f1 f2 f3 f4 bal i) tr lost) ∧ Aside0 (w'.heap[gb]? = some (.cells #[.int .i64 f0, .int .i64 f1, .int .i64 f2, .int .i64 f3, .int .i64 f4, .int .i64 f5] 36 (0, 0))) ∧ Aside0 (Kp gt g1 g2 w w'))
  case atStart => exact ⟨0, ⟨rfl⟩, ⟨by omega⟩, rfl, ST, BK, KP⟩
  case round =>
    clear ST BK KP
    obtain ⟨i, HK, HI, rfl, HS, BK, KP⟩ := hrel
    by_cases hlt : i < 2
    · obtain ⟨pp, hp0, hp1, hpi, hnx⟩ : ∃ pp, 0 ≤ pp ∧ pp < (n : Int) ∧ ((i = 0 ∧ f2 = pp) ∨ (i = 1 ∧ f3 = pp)) ∧ mvF f1 f2 f3 f4 bal (i + 1) = mv1 f1 f2 f3 f4 (mvF f1 f2 f3 f4 bal i) pp := by
        rcases (by omega : i = 0 ∨ i = 1) with rfl | rfl
        · exact ⟨f2, p0, p1, .inl ⟨rfl, rfl⟩, rfl⟩
        · exact ⟨f3, q0, q1, .inr ⟨rfl, rfl⟩, rfl⟩
      have HN := Aside0.mk hnx
      clear hnx
      have st0 := HS.out
      generalize hB : mvF f1 f2 f3 f4 bal i = B at *
      have ST := st0.below (pw_below_drewN (Below.refl _ _) 1)
      have BKd : wr.drew.heap[gb]? = _ := BK.out
      have x0 : wr.drew.cell? ⟨gt, 0, none⟩ = some (.slice (some ⟨g1, 0, none⟩) n c1) := (blk_cell st0.blk 0).trans rfl
      have x1 : wr.drew.cell? ⟨g1, pp.toNat, none⟩ = some (.int .i64 (rd B pp)) := (own_at st0.ob pp hp0 hp1).1
      have b1 : decide (0 ≤ pp) = true := decide_eq_true hp0
      have b2 : decide (pp < (n : Int)) = true := decide_eq_true hp1
      rcases hpi with ⟨rfl, rfl⟩ | ⟨rfl, rfl⟩ <;> clear hB HI hlt
      · go_wp2
        refine start_ (n := 13) (S := fun w' => w'.cell? ⟨gt, 0, none⟩ = some (.slice (some ⟨g1, 0, none⟩) n c1) ∧ w'.cell? ⟨g1, f2.toNat, none⟩ = some (.int .i64 (rd B f2)) ∧ w'.heap[gb]? = some (.cells #[.int .i64 f0, .int .i64 f1, .int .i64 f2, .int .i64 f3, .int .i64 f4, .int .i64 f5] 36 (0, 0))) (ds := [12]) #[false, false, false, false, false, false, false, false, false, false, false, false, false] (by kernel_rfl) rfl rfl ⟨x0, x1, BKd⟩ (fun hHeld => ?_)
        refine pure_ (i := 0) (N := some 14) (v := ?_) (a' := ?_) #[true, false, false, false, false, false, false, false, false, false, false, false, false] rfl rfl (by kernel_rfl) (fun _ _ _ h => h) (Or.inl ⟨by rfl, ?_⟩) ?_ ?_
        rotate_left
        · intro w'
          go_simp
          with_reducible rfl
        rotate_left
        · simp only [Act.put, List.setIfInBounds_toArray, List.set_cons_zero, List.set_cons_succ, i64_w, i32_w]
          rfl
        refine pure_ (i := 4) (N := some 18) (v := ?_) (a' := ?_) #[true, false, false, false, true, false, false, false, false, false, false, false, false] rfl rfl (by kernel_rfl) (fun _ _ _ h => h) (Or.inl ⟨by rfl, ?_⟩) ?_ ?_
        rotate_left
        · intro w'
          go_simp
          with_reducible rfl
        rotate_left
        · simp only [Act.put, List.setIfInBounds_toArray, List.set_cons_zero, List.set_cons_succ, i64_w, i32_w]
          rfl
        refine pure_ (i := 8) (N := some 22) (v := ?_) (a' := ?_) #[true, false, false, false, true, false, false, false, true, false, false, false, false] rfl rfl (by kernel_rfl) (fun _ _ _ h => h) (Or.inl ⟨by rfl, ?_⟩) ?_ ?_
        rotate_left
        · intro w'
          go_simp
          with_reducible rfl
        rotate_left
        · simp only [Act.put, List.setIfInBounds_toArray, List.set_cons_zero, List.set_cons_succ, i64_w, i32_w]
          rfl
        refine pure_ (i := 1) (N := some 15) (v := ?_) (a' := ?_) #[true, true, false, false, true, false, false, false, true, false, false, false, false] rfl rfl (by kernel_rfl) (fun _ _ _ h => h) (Or.inl ⟨by rfl, ?_⟩) ?_ ?_
        rotate_left
        · intro w'
          go_simp
          with_reducible rfl
        rotate_left
        · simp only [Act.put, List.setIfInBounds_toArray, List.set_cons_zero, List.set_cons_succ, i64_w, i32_w]
          rfl
        refine pure_ (i := 2) (N := some 16) (v := ?_) (a' := ?_) #[true, true, true, false, true, false, false, false, true, false, false, false, false] rfl rfl (by kernel_rfl) (fun _ _ _ h => h) (Or.inl ⟨by rfl, ?_⟩) ?_ ?_
        rotate_left
        · intro w'
          go_simp
          with_reducible rfl
        rotate_left
        · simp only [Act.put, List.setIfInBounds_toArray, List.set_cons_zero, List.set_cons_succ, i64_w, i32_w]
          rfl
        refine take_ (i := 3) (N := some 17) (v := ?_) (a' := ?_) #[true, true, true, true, true, false, false, false, true, false, false, false, false] rfl rfl (by kernel_rfl) (fun _ _ _ h => h) (Or.inl ⟨by rfl, ?_⟩) hHeld ?_ ?_
        rotate_left
        · rintro w' ⟨s0, s1, s2⟩
          have s20 : w'.cell? ⟨gb, 0, none⟩ = some (.int .i64 f0) := (blk_cell s2 0).trans rfl
          have s21 : w'.cell? ⟨gb, 1, none⟩ = some (.int .i64 f1) := (blk_cell s2 1).trans rfl
          have s22 : w'.cell? ⟨gb, 2, none⟩ = some (.int .i64 f2) := (blk_cell s2 2).trans rfl
          have s23 : w'.cell? ⟨gb, 3, none⟩ = some (.int .i64 f3) := (blk_cell s2 3).trans rfl
          have s24 : w'.cell? ⟨gb, 4, none⟩ = some (.int .i64 f4) := (blk_cell s2 4).trans rfl
          have s25 : w'.cell? ⟨gb, 5, none⟩ = some (.int .i64 f5) := (blk_cell s2 5).trans rfl
          go_simp
          with_reducible rfl
        rotate_left
        · simp only [Act.put, List.setIfInBounds_toArray, List.set_cons_zero, List.set_cons_succ, i64_w, i32_w]
          rfl
        refine pure_ (i := 5) (N := some 19) (v := ?_) (a' := ?_) #[true, true, true, true, true, true, false, false, true, false, false, false, false] rfl rfl (by kernel_rfl) (fun _ _ _ h => h) (Or.inl ⟨by rfl, ?_⟩) ?_ ?_
        rotate_left
        · intro w'
          go_simp
          with_reducible rfl
        rotate_left
        · simp only [Act.put, List.setIfInBounds_toArray, List.set_cons_zero, List.set_cons_succ, i64_w, i32_w]
          rfl
        refine take_ (i := 6) (N := some 20) (v := ?_) (a' := ?_) #[true, true, true, true, true, true, true, false, true, false, false, false, false] rfl rfl (by kernel_rfl) (fun _ _ _ h => h) (Or.inl ⟨by rfl, ?_⟩) hHeld ?_ ?_
        rotate_left
        · rintro w' ⟨s0, s1, s2⟩
          have s20 : w'.cell? ⟨gb, 0, none⟩ = some (.int .i64 f0) := (blk_cell s2 0).trans rfl
          have s21 : w'.cell? ⟨gb, 1, none⟩ = some (.int .i64 f1) := (blk_cell s2 1).trans rfl
          have s22 : w'.cell? ⟨gb, 2, none⟩ = some (.int .i64 f2) := (blk_cell s2 2).trans rfl
          have s23 : w'.cell? ⟨gb, 3, none⟩ = some (.int .i64 f3) := (blk_cell s2 3).trans rfl
          have s24 : w'.cell? ⟨gb, 4, none⟩ = some (.int .i64 f4) := (blk_cell s2 4).trans rfl
          have s25 : w'.cell? ⟨gb, 5, none⟩ = some (.int .i64 f5) := (blk_cell s2 5).trans rfl
          go_simp
          with_reducible rfl
        rotate_left
        · simp only [Act.put, List.setIfInBounds_toArray, List.set_cons_zero, List.set_cons_succ, i64_w, i32_w]
          rfl
        refine take_ (i := 7) (N := some 21) (v := ?_) (a' := ?_) #[true, true, true, true, true, true, true, true, true, false, false, false, false] rfl rfl (by kernel_rfl) (fun _ _ _ h => h) (Or.inl ⟨by rfl, ?_⟩) hHeld ?_ ?_
        rotate_left
        · rintro w' ⟨s0, s1, s2⟩
          have s20 : w'.cell? ⟨gb, 0, none⟩ = some (.int .i64 f0) := (blk_cell s2 0).trans rfl
          have s21 : w'.cell? ⟨gb, 1, none⟩ = some (.int .i64 f1) := (blk_cell s2 1).trans rfl
          have s22 : w'.cell? ⟨gb, 2, none⟩ = some (.int .i64 f2) := (blk_cell s2 2).trans rfl
          have s23 : w'.cell? ⟨gb, 3, none⟩ = some (.int .i64 f3) := (blk_cell s2 3).trans rfl
          have s24 : w'.cell? ⟨gb, 4, none⟩ = some (.int .i64 f4) := (blk_cell s2 4).trans rfl
          have s25 : w'.cell? ⟨gb, 5, none⟩ = some (.int .i64 f5) := (blk_cell s2 5).trans rfl
          go_simp
          with_reducible rfl
        rotate_left
        · simp only [Act.put, List.setIfInBounds_toArray, List.set_cons_zero, List.set_cons_succ, i64_w, i32_w]
          rfl
        refine one_ (i := 9) (N := some 23) #[true, true, true, true, true, true, true, true, true, true, false, false, false] rfl rfl (by kernel_rfl) (by decide) (fun K hK => ?_)
        refine goes_ Try.func28 (by kernel_rfl) rfl #[.agg #[.int .i64 f0, .int .i64 f1, .int .i64 f2, .int .i64 f3, .int .i64 f4, .int .i64 f5], .int .i64 f2] (by rfl) rfl rfl (by (try simp only [List.map_toArray, List.map_cons, List.map_nil]); first | done | rfl) ?_
        refine Calls.mono (history_Money.calls 1 f0 f1 f2 f3 f4 f5 f2 _ _ (mon_eq f0 f1 f2 f3 f4 f5 f2)) ?_
        rintro e w2 ⟨rfl, hb⟩
        refine ⟨_, rfl, ?_⟩
        have st2 : St w2 base gt g1 g2 n c1 c2 _ tr lost := ST.below hb
        have bk2 := blk_below BKd hb
        have kp2 : Kp gt g1 g2 w w2 := Kp.below (W := wr.drew) (KP.out.drewN 1) hb
        refine hK.out _ _ ⟨(blk_cell st2.blk 0).trans rfl, (own_at st2.ob f2 hp0 hp1).1, bk2⟩ ?_
        clear hK K
        rintro ⟨t0, t1, t2⟩
        simp only [Act.put, List.setIfInBounds_toArray, List.set_cons_zero, List.set_cons_succ]
        refine pure_ (i := 10) (N := some 24) (v := ?_) (a' := ?_) #[true, true, true, true, true, true, true, true, true, true, true, false, false] rfl rfl (by kernel_rfl) (fun _ _ _ h => h) (Or.inl ⟨by rfl, ?_⟩) ?_ ?_
        rotate_left
        · intro w'
          go_simp
          with_reducible rfl
        rotate_left
        · simp only [Act.put, List.setIfInBounds_toArray, List.set_cons_zero, List.set_cons_succ, i64_w, i32_w]
          rfl
        refine pure_ (i := 11) (N := some 25) (v := ?_) (a' := ?_) #[true, true, true, true, true, true, true, true, true, true, true, true, false] rfl rfl (by kernel_rfl) (fun _ _ _ h => h) (Or.inl ⟨by rfl, ?_⟩) ?_ ?_
        rotate_left
        · intro w'
          go_simp
          with_reducible rfl
        rotate_left
        · simp only [Act.put, List.setIfInBounds_toArray, List.set_cons_zero, List.set_cons_succ, i64_w, i32_w]
          rfl
        have fz := (own_at st2.ob f2 hp0 hp1).2
        refine last_ (i := 12) (N := none) #[true, true, true, true, true, true, true, true, true, true, true, true, true] rfl rfl (by kernel_rfl) (by decide) (fun K hK => ?_)
        refine skip_ (w1 := ?_) (by rfl) rfl ?_ ?_
        rotate_left
        · go_simp
          rfl
        refine hK.out _ _ ?_
        clear hK K
        refine done_ (by kernel_rfl) ?_
        go_wp2
        go_roundg (2 - 1)
        case measure => have := HK.out; omega
        case rel => exact ⟨1, ⟨by omega⟩, ⟨by omega⟩, by go_num, ⟨by rw [HN.out]; exact St.setB st2 f2 _⟩, ⟨blk_far bk2 gbne _⟩, ⟨kp2.setB _ _⟩⟩
      · go_wp2
        refine start_ (n := 13) (S := fun w' => w'.cell? ⟨gt, 0, none⟩ = some (.slice (some ⟨g1, 0, none⟩) n c1) ∧ w'.cell? ⟨g1, f3.toNat, none⟩ = some (.int .i64 (rd B f3)) ∧ w'.heap[gb]? = some (.cells #[.int .i64 f0, .int .i64 f1, .int .i64 f2, .int .i64 f3, .int .i64 f4, .int .i64 f5] 36 (0, 0))) (ds := [12]) #[false, false, false, false, false, false, false, false, false, false, false, false, false] (by kernel_rfl) rfl rfl ⟨x0, x1, BKd⟩ (fun hHeld => ?_)
        refine pure_ (i := 0) (N := some 14) (v := ?_) (a' := ?_) #[true, false, false, false, false, false, false, false, false, false, false, false, false] rfl rfl (by kernel_rfl) (fun _ _ _ h => h) (Or.inl ⟨by rfl, ?_⟩) ?_ ?_
        rotate_left
        · intro w'
          go_simp
          with_reducible rfl
        rotate_left
        · simp only [Act.put, List.setIfInBounds_toArray, List.set_cons_zero, List.set_cons_succ, i64_w, i32_w]
          rfl
        refine pure_ (i := 4) (N := some 18) (v := ?_) (a' := ?_) #[true, false, false, false, true, false, false, false, false, false, false, false, false] rfl rfl (by kernel_rfl) (fun _ _ _ h => h) (Or.inl ⟨by rfl, ?_⟩) ?_ ?_
        rotate_left
        · intro w'
          go_simp
          with_reducible rfl
        rotate_left
        · simp only [Act.put, List.setIfInBounds_toArray, List.set_cons_zero, List.set_cons_succ, i64_w, i32_w]
          rfl
        refine pure_ (i := 8) (N := some 22) (v := ?_) (a' := ?_) #[true, false, false, false, true, false, false, false, true, false, false, false, false] rfl rfl (by kernel_rfl) (fun _ _ _ h => h) (Or.inl ⟨by rfl, ?_⟩) ?_ ?_
        rotate_left
        · intro w'
          go_simp
          with_reducible rfl
        rotate_left
        · simp only [Act.put, List.setIfInBounds_toArray, List.set_cons_zero, List.set_cons_succ, i64_w, i32_w]
          rfl
        refine pure_ (i := 1) (N := some 15) (v := ?_) (a' := ?_) #[true, true, false, false, true, false, false, false, true, false, false, false, false] rfl rfl (by kernel_rfl) (fun _ _ _ h => h) (Or.inl ⟨by rfl, ?_⟩) ?_ ?_
        rotate_left
        · intro w'
          go_simp
          with_reducible rfl
        rotate_left
        · simp only [Act.put, List.setIfInBounds_toArray, List.set_cons_zero, List.set_cons_succ, i64_w, i32_w]
          rfl
        refine pure_ (i := 2) (N := some 16) (v := ?_) (a' := ?_) #[true, true, true, false, true, false, false, false, true, false, false, false, false] rfl rfl (by kernel_rfl) (fun _ _ _ h => h) (Or.inl ⟨by rfl, ?_⟩) ?_ ?_
        rotate_left
        · intro w'
          go_simp
          with_reducible rfl
        rotate_left
        · simp only [Act.put, List.setIfInBounds_toArray, List.set_cons_zero, List.set_cons_succ, i64_w, i32_w]
          rfl
        refine take_ (i := 3) (N := some 17) (v := ?_) (a' := ?_) #[true, true, true, true, true, false, false, false, true, false, false, false, false] rfl rfl (by kernel_rfl) (fun _ _ _ h => h) (Or.inl ⟨by rfl, ?_⟩) hHeld ?_ ?_
        rotate_left
        · rintro w' ⟨s0, s1, s2⟩
          have s20 : w'.cell? ⟨gb, 0, none⟩ = some (.int .i64 f0) := (blk_cell s2 0).trans rfl
          have s21 : w'.cell? ⟨gb, 1, none⟩ = some (.int .i64 f1) := (blk_cell s2 1).trans rfl
          have s22 : w'.cell? ⟨gb, 2, none⟩ = some (.int .i64 f2) := (blk_cell s2 2).trans rfl
          have s23 : w'.cell? ⟨gb, 3, none⟩ = some (.int .i64 f3) := (blk_cell s2 3).trans rfl
          have s24 : w'.cell? ⟨gb, 4, none⟩ = some (.int .i64 f4) := (blk_cell s2 4).trans rfl
          have s25 : w'.cell? ⟨gb, 5, none⟩ = some (.int .i64 f5) := (blk_cell s2 5).trans rfl
          go_simp
          with_reducible rfl
        rotate_left
        · simp only [Act.put, List.setIfInBounds_toArray, List.set_cons_zero, List.set_cons_succ, i64_w, i32_w]
          rfl
        refine pure_ (i := 5) (N := some 19) (v := ?_) (a' := ?_) #[true, true, true, true, true, true, false, false, true, false, false, false, false] rfl rfl (by kernel_rfl) (fun _ _ _ h => h) (Or.inl ⟨by rfl, ?_⟩) ?_ ?_
        rotate_left
        · intro w'
          go_simp
          with_reducible rfl
        rotate_left
        · simp only [Act.put, List.setIfInBounds_toArray, List.set_cons_zero, List.set_cons_succ, i64_w, i32_w]
          rfl
        refine take_ (i := 6) (N := some 20) (v := ?_) (a' := ?_) #[true, true, true, true, true, true, true, false, true, false, false, false, false] rfl rfl (by kernel_rfl) (fun _ _ _ h => h) (Or.inl ⟨by rfl, ?_⟩) hHeld ?_ ?_
        rotate_left
        · rintro w' ⟨s0, s1, s2⟩
          have s20 : w'.cell? ⟨gb, 0, none⟩ = some (.int .i64 f0) := (blk_cell s2 0).trans rfl
          have s21 : w'.cell? ⟨gb, 1, none⟩ = some (.int .i64 f1) := (blk_cell s2 1).trans rfl
          have s22 : w'.cell? ⟨gb, 2, none⟩ = some (.int .i64 f2) := (blk_cell s2 2).trans rfl
          have s23 : w'.cell? ⟨gb, 3, none⟩ = some (.int .i64 f3) := (blk_cell s2 3).trans rfl
          have s24 : w'.cell? ⟨gb, 4, none⟩ = some (.int .i64 f4) := (blk_cell s2 4).trans rfl
          have s25 : w'.cell? ⟨gb, 5, none⟩ = some (.int .i64 f5) := (blk_cell s2 5).trans rfl
          go_simp
          with_reducible rfl
        rotate_left
        · simp only [Act.put, List.setIfInBounds_toArray, List.set_cons_zero, List.set_cons_succ, i64_w, i32_w]
          rfl
        refine take_ (i := 7) (N := some 21) (v := ?_) (a' := ?_) #[true, true, true, true, true, true, true, true, true, false, false, false, false] rfl rfl (by kernel_rfl) (fun _ _ _ h => h) (Or.inl ⟨by rfl, ?_⟩) hHeld ?_ ?_
        rotate_left
        · rintro w' ⟨s0, s1, s2⟩
          have s20 : w'.cell? ⟨gb, 0, none⟩ = some (.int .i64 f0) := (blk_cell s2 0).trans rfl
          have s21 : w'.cell? ⟨gb, 1, none⟩ = some (.int .i64 f1) := (blk_cell s2 1).trans rfl
          have s22 : w'.cell? ⟨gb, 2, none⟩ = some (.int .i64 f2) := (blk_cell s2 2).trans rfl
          have s23 : w'.cell? ⟨gb, 3, none⟩ = some (.int .i64 f3) := (blk_cell s2 3).trans rfl
          have s24 : w'.cell? ⟨gb, 4, none⟩ = some (.int .i64 f4) := (blk_cell s2 4).trans rfl
          have s25 : w'.cell? ⟨gb, 5, none⟩ = some (.int .i64 f5) := (blk_cell s2 5).trans rfl
          go_simp
          with_reducible rfl
        rotate_left
        · simp only [Act.put, List.setIfInBounds_toArray, List.set_cons_zero, List.set_cons_succ, i64_w, i32_w]
          rfl
        refine one_ (i := 9) (N := some 23) #[true, true, true, true, true, true, true, true, true, true, false, false, false] rfl rfl (by kernel_rfl) (by decide) (fun K hK => ?_)
        refine goes_ Try.func28 (by kernel_rfl) rfl #[.agg #[.int .i64 f0, .int .i64 f1, .int .i64 f2, .int .i64 f3, .int .i64 f4, .int .i64 f5], .int .i64 f3] (by rfl) rfl rfl (by (try simp only [List.map_toArray, List.map_cons, List.map_nil]); first | done | rfl) ?_
        refine Calls.mono (history_Money.calls 1 f0 f1 f2 f3 f4 f5 f3 _ _ (mon_eq f0 f1 f2 f3 f4 f5 f3)) ?_
        rintro e w2 ⟨rfl, hb⟩
        refine ⟨_, rfl, ?_⟩
        have st2 : St w2 base gt g1 g2 n c1 c2 _ tr lost := ST.below hb
        have bk2 := blk_below BKd hb
        have kp2 : Kp gt g1 g2 w w2 := Kp.below (W := wr.drew) (KP.out.drewN 1) hb
        refine hK.out _ _ ⟨(blk_cell st2.blk 0).trans rfl, (own_at st2.ob f3 hp0 hp1).1, bk2⟩ ?_
        clear hK K
        rintro ⟨t0, t1, t2⟩
        simp only [Act.put, List.setIfInBounds_toArray, List.set_cons_zero, List.set_cons_succ]
        refine pure_ (i := 10) (N := some 24) (v := ?_) (a' := ?_) #[true, true, true, true, true, true, true, true, true, true, true, false, false] rfl rfl (by kernel_rfl) (fun _ _ _ h => h) (Or.inl ⟨by rfl, ?_⟩) ?_ ?_
        rotate_left
        · intro w'
          go_simp
          with_reducible rfl
        rotate_left
        · simp only [Act.put, List.setIfInBounds_toArray, List.set_cons_zero, List.set_cons_succ, i64_w, i32_w]
          rfl
        refine pure_ (i := 11) (N := some 25) (v := ?_) (a' := ?_) #[true, true, true, true, true, true, true, true, true, true, true, true, false] rfl rfl (by kernel_rfl) (fun _ _ _ h => h) (Or.inl ⟨by rfl, ?_⟩) ?_ ?_
        rotate_left
        · intro w'
          go_simp
          with_reducible rfl
        rotate_left
        · simp only [Act.put, List.setIfInBounds_toArray, List.set_cons_zero, List.set_cons_succ, i64_w, i32_w]
          rfl
        have fz := (own_at st2.ob f3 hp0 hp1).2
        refine last_ (i := 12) (N := none) #[true, true, true, true, true, true, true, true, true, true, true, true, true] rfl rfl (by kernel_rfl) (by decide) (fun K hK => ?_)
        refine skip_ (w1 := ?_) (by rfl) rfl ?_ ?_
        rotate_left
        · go_simp
          rfl
        refine hK.out _ _ ?_
        clear hK K
        refine done_ (by kernel_rfl) ?_
        go_wp2
        go_roundg (2 - 2)
        case measure => have := HK.out; omega
        case rel => exact ⟨2, ⟨by omega⟩, ⟨by omega⟩, by go_num, ⟨by rw [HN.out]; exact St.setB st2 f3 _⟩, ⟨blk_far bk2 gbne _⟩, ⟨kp2.setB _ _⟩⟩
    · obtain rfl : i = 2 := by have := HI.out; omega
      clear hlt
      go_wp2
      go_end0
      exact ⟨rfl, HS.out, KP.out⟩
end Go.Proofs.Ytljenpakncmlkaa.Tr
