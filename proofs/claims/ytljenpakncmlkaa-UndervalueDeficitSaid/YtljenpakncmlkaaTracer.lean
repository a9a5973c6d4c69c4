/- The tracer of undervalue, walked by hand: its three methods, over a state of two rows of balances and a number. -/
import Derived.Test.YtljenpakncmlkaaPAllx0
import Derived.Test.YtljenpakncmlkaaV0
import Derived.Outline
namespace Go.Proofs.Ytljenpakncmlkaa.Tr
open Go.RowKit Go.Proofs.YtljenpakncmlkaaW.PrintWords Go.Proofs.YtljenpakncmlkaaW.PrintLast Go.Proofs.YtljenpakncmlkaaW.PrintMore Go.Proofs.Ytljenpakncmlkaa.PAll
attribute [local go_sem] max2_int min2_int max_two min_two

/-- The tracer's memory. -/
structure St (w : World) (base gt g1 g2 n c1 c2 : Nat) (bal tr : List Int) (lost : Int) : Prop where
  blk : w.heap[gt]? = some (.cells #[.slice (some ⟨g1, 0, none⟩) n c1, .slice (some ⟨g2, 0, none⟩) n c2, .int .i64 lost] 49 (0, 0))
  ob : w.ownsRow base 2 1 (.slice (some ⟨g1, 0, none⟩) n c1) n (nums .i64 bal)
  ot : w.ownsRow base 2 1 (.slice (some ⟨g2, 0, none⟩) n c2) n (nums .i64 tr)
  ne : g1 ≠ g2
  hn : 0 < n
  hbase : base ≤ gt
section
variable {w w1 : World} {base gt g1 g2 n c1 c2 : Nat} {bal tr : List Int} {lost : Int}
theorem St.ne1 (h : St w base gt g1 g2 n c1 c2 bal tr lost) : gt ≠ g1 := by
  obtain ⟨cs, hc⟩ := own_typed h.ob g1 rfl
  exact blk_ne h.blk hc (by decide)
theorem St.ne2 (h : St w base gt g1 g2 n c1 c2 bal tr lost) : gt ≠ g2 := by
  obtain ⟨cs, hc⟩ := own_typed h.ot g2 rfl
  exact blk_ne h.blk hc (by decide)
theorem St.below (h : St w base gt g1 g2 n c1 c2 bal tr lost) (hb : Below w.heap.size w w1) : St w1 base gt g1 g2 n c1 c2 bal tr lost :=
  ⟨blk_below h.blk hb, pw_own_below h.ob hb, pw_own_below h.ot hb, h.ne, h.hn, h.hbase⟩
theorem St.setT (h : St w base gt g1 g2 n c1 c2 bal tr lost) (i x : Int) : St (w.setCell ⟨g2, i.toNat, none⟩ (.int .i64 x)) base gt g1 g2 n c1 c2 bal (tr.set i.toNat x) lost := by
  obtain ⟨ho, hg⟩ := own_store h.ot i x
  exact ⟨blk_far h.blk h.ne2 _, own_other h.ob hg (.inr (by simpa [Value.ownBlock] using h.ne)), ho, h.ne, h.hn, h.hbase⟩
theorem St.setB (h : St w base gt g1 g2 n c1 c2 bal tr lost) (i x : Int) : St (w.setCell ⟨g1, i.toNat, none⟩ (.int .i64 x)) base gt g1 g2 n c1 c2 (bal.set i.toNat x) tr lost := by
  obtain ⟨ho, hg⟩ := own_store h.ob i x
  exact ⟨blk_far h.blk h.ne1 _, ho, own_other h.ot hg (.inr (by simpa [Value.ownBlock] using h.ne.symm)), h.ne, h.hn, h.hbase⟩
theorem St.setL (h : St w base gt g1 g2 n c1 c2 bal tr lost) (x : Int) : St (w.setCell ⟨gt, 2, none⟩ (.int .i64 x)) base gt g1 g2 n c1 c2 bal tr x := by
  have hg : w.grownBy (w.setCell ⟨gt, 2, none⟩ (.int .i64 x)) (some gt) := ⟨rfl, rfl, rfl, by simp [World.setCell], fun i _ hi => Below.heap_setCell w ⟨gt, 2, none⟩ _ i (fun e => hi (by rw [e]))⟩
  exact ⟨blk_put h.blk 2 _ rfl, own_other h.ob hg (.inr (by simpa [Value.ownBlock] using h.ne1.symm)), own_other h.ot hg (.inr (by simpa [Value.ownBlock] using h.ne2.symm)), h.ne, h.hn, h.hbase⟩
theorem St.far (h : St w base gt g1 g2 n c1 c2 bal tr lost) {p : Addr} (h0 : p.block ≠ gt) (h1 : p.block ≠ g1) (h2 : p.block ≠ g2) (u : Value) : St (w.setCell p u) base gt g1 g2 n c1 c2 bal tr lost := by
  have hg : w.grownBy (w.setCell p u) (some p.block) := ⟨rfl, rfl, rfl, by simp [World.setCell], fun i _ hi => Below.heap_setCell w p _ i (fun e => hi (by rw [e]))⟩
  exact ⟨blk_far h.blk (Ne.symm h0) _, own_other h.ob hg (.inr (by simpa [Value.ownBlock] using Ne.symm h1)), own_other h.ot hg (.inr (by simpa [Value.ownBlock] using Ne.symm h2)), h.ne, h.hn, h.hbase⟩
end

/-- All that was there and is none of the tracer's blocks stays. -/
def Mine (gt g1 g2 : Nat) (k : Nat) : Prop := k = gt ∨ k = g1 ∨ k = g2
/-- What a method of the tracer leaves as it was. -/
structure Kp (gt g1 g2 : Nat) (w w' : World) : Prop where
  os : w'.os = w.os
  tape : w'.tape = w.tape
  output : w'.output = w.output
  kept : Kept w w' (Mine gt g1 g2)
section
variable {w W W2 : World} {gt g1 g2 : Nat}
theorem Kp.refl (w : World) : Kp gt g1 g2 w w := ⟨rfl, rfl, rfl, Kept.refl w _⟩
theorem Kp.of_below (h : Below w.heap.size w W) : Kp gt g1 g2 w W := ⟨h.os, h.tape, h.output, Kept.of_below h _⟩
theorem Kp.below (h : Kp gt g1 g2 w W) (hb : Below W.heap.size W W2) : Kp gt g1 g2 w W2 := ⟨hb.os.trans h.os, hb.tape.trans h.tape, hb.output.trans h.output, h.kept.below hb⟩
theorem Kp.alloc (h : Kp gt g1 g2 w W) (o : Obj) : Kp gt g1 g2 w (W.alloc o) := h.below (below_alloc (Below.refl _ _) o)
theorem Kp.drewN (h : Kp gt g1 g2 w W) (m : Nat) : Kp gt g1 g2 w (W.drewN m) := ⟨h.os, h.tape, h.output, h.kept.drewN m⟩
theorem Kp.setCell (h : Kp gt g1 g2 w W) {p : Addr} (hp : Mine gt g1 g2 p.block ∨ w.heap.size ≤ p.block) (u : Value) : Kp gt g1 g2 w (W.setCell p u) := ⟨h.os, h.tape, h.output, h.kept.setCell hp u⟩
theorem Kp.setT (h : Kp gt g1 g2 w W) (i : Nat) (u : Value) : Kp gt g1 g2 w (W.setCell ⟨g2, i, none⟩ u) := h.setCell (.inl (.inr (.inr rfl))) u
theorem Kp.setB (h : Kp gt g1 g2 w W) (i : Nat) (u : Value) : Kp gt g1 g2 w (W.setCell ⟨g1, i, none⟩ u) := h.setCell (.inl (.inr (.inl rfl))) u
theorem Kp.setL (h : Kp gt g1 g2 w W) (i : Nat) (u : Value) : Kp gt g1 g2 w (W.setCell ⟨gt, i, none⟩ u) := h.setCell (.inl (.inl rfl)) u
/-- Behind a method, seen from further back. -/
theorem Kp.back (h : Kp gt g1 g2 W W2) (hb : Below w.heap.size w W) (h0 : w.heap.size ≤ gt) (h1 : w.heap.size ≤ g1) (h2 : w.heap.size ≤ g2) : Below w.heap.size w W2 :=
  ⟨h.os.trans hb.os, h.tape.trans hb.tape, h.output.trans hb.output, Nat.le_trans hb.size h.kept.1, fun i hi => (h.kept.2 i (Nat.lt_of_lt_of_le hi hb.size) (by rintro (e | e | e) <;> omega)).trans (hb.block i hi)⟩
theorem Kp.heap (h : Kp gt g1 g2 W W2) {g : Nat} {o : Obj} (hg : W.heap[g]? = some o) (h0 : g ≠ gt) (h1 : g ≠ g1) (h2 : g ≠ g2) : W2.heap[g]? = some o :=
  (h.kept.2 g (blk_lt hg) (by rintro (e | e | e) <;> contradiction)).trans hg
end
/-- How much traced money a row takes from p. -/
def taken (bal tr : List Int) (p f4 : Int) : Int := mn (rd tr p) (mx (wrap64 (f4 - wrap64 (mx (rd bal p) 0 - rd tr p))) 0)
theorem rd_set_ne (l : List Int) (p q x : Int) (h : p.toNat ≠ q.toNat) : rd (l.set p.toNat x) q = rd l q := by
  unfold rd
  rw [List.getD_eq_getElem?_getD, List.getD_eq_getElem?_getD, List.getElem?_set_ne h]

set_option maxHeartbeats 4000000 in
set_option maxRecDepth 100000 in
/-- A payment after the traced one. -/
theorem spend1 (w : World) {base gt g1 g2 n c1 c2 : Nat} {bal tr : List Int} {lost : Int} (st : St w base gt g1 g2 n c1 c2 bal tr lost) (f0 p q f4 f5 : Int) (p0 : 0 ≤ p) (p1 : p < n) (q0 : 0 ≤ q) (q1 : q < n) (hpq : p ≠ q) :
    Calls Try.prog 19 #[.pointer (some ⟨gt, 0, none⟩), .agg #[.int .i64 f0, .int .i64 1, .int .i64 p, .int .i64 q, .int .i64 f4, .int .i64 f5]] w fun e w' => e = .returned (.tuple #[]) ∧
      St w' base gt g1 g2 n c1 c2 bal ((tr.set p.toNat (wrap64 (rd tr p - taken bal tr p f4))).set q.toNat (wrap64 (rd tr q + taken bal tr p f4))) lost ∧ Kp gt g1 g2 w w' := by
  have hu1 := Try.underlying49
  have hu2 := Try.underlying36
  have x0 : w.cell? ⟨gt, 0, none⟩ = some (.slice (some ⟨g1, 0, none⟩) n c1) := (blk_cell st.blk 0).trans rfl
  have x1 : w.cell? ⟨gt, 1, none⟩ = some (.slice (some ⟨g2, 0, none⟩) n c2) := (blk_cell st.blk 1).trans rfl
  have x2 : w.cell? ⟨gt, 2, none⟩ = some (.int .i64 lost) := (blk_cell st.blk 2).trans rfl
  have z0 := blk_frozen st.blk 2
  obtain ⟨y1, _⟩ := own_at st.ob p p0 p1
  obtain ⟨y2, v2⟩ := own_at st.ot p p0 p1
  obtain ⟨y3, v3⟩ := own_at st.ot q q0 q1
  have l1 := blk_lt st.blk
  have l2 : g1 < w.heap.size := own_lt st.ob g1 rfl
  have l3 : g2 < w.heap.size := own_lt st.ot g2 rfl
  have n1 := st.ne1
  have n2 := st.ne2
  have n3 := st.ne
  have n4 : p.toNat ≠ q.toNat := by omega
  have n5 : q.toNat ≠ p.toNat := by omega
  have b1 : decide (0 ≤ p) = true := decide_eq_true p0
  have b2 : decide (p < (n : Int)) = true := decide_eq_true p1
  have b3 : decide (0 ≤ q) = true := decide_eq_true q0
  have b4 : decide (q < (n : Int)) = true := decide_eq_true q1
  go_enter Try.func19, Try.ntmps19
  go_wp2
  go_quiet (fail)
  go_wp2
  go_quiet (fail)
  generalize hm : (if rd bal p < 0 then 0 else rd bal p) = m
  generalize ho : wrap64 (m - rd tr p) = own
  go_wp2
  go_quiet (fail)
  generalize hy : (if wrap64 (f4 - own) < 0 then 0 else wrap64 (f4 - own)) = y
  generalize hz : (if y < rd tr p then y else rd tr p) = z
  go_wp2
  go_end0
  subst hz hy ho hm
  exact ⟨rfl, St.setT (St.setT (st.below (pw_below_drewN (below_alloc (Below.refl _ _) _) _)) p _) q _, (((Kp.refl w).alloc _).drewN _ |>.setT _ _).setT _ _⟩

set_option maxHeartbeats 4000000 in
set_option maxRecDepth 100000 in
/-- The price of a transfer: the buyer is To, what it pays is lost. -/
theorem spend3 (w : World) {base gt g1 g2 n c1 c2 : Nat} {bal tr : List Int} {lost : Int} (st : St w base gt g1 g2 n c1 c2 bal tr lost) (f0 q p f4 f5 : Int) (p0 : 0 ≤ p) (p1 : p < n) (q0 : 0 ≤ q) (q1 : q < n) (hpq : p ≠ q) :
    Calls Try.prog 19 #[.pointer (some ⟨gt, 0, none⟩), .agg #[.int .i64 f0, .int .i64 3, .int .i64 q, .int .i64 p, .int .i64 f4, .int .i64 f5]] w fun e w' => e = .returned (.tuple #[]) ∧
      St w' base gt g1 g2 n c1 c2 bal (tr.set p.toNat (wrap64 (rd tr p - taken bal tr p f4))) (wrap64 (lost + taken bal tr p f4)) ∧ Kp gt g1 g2 w w' := by
  have hu1 := Try.underlying49
  have hu2 := Try.underlying36
  have x0 : w.cell? ⟨gt, 0, none⟩ = some (.slice (some ⟨g1, 0, none⟩) n c1) := (blk_cell st.blk 0).trans rfl
  have x1 : w.cell? ⟨gt, 1, none⟩ = some (.slice (some ⟨g2, 0, none⟩) n c2) := (blk_cell st.blk 1).trans rfl
  have x2 : w.cell? ⟨gt, 2, none⟩ = some (.int .i64 lost) := (blk_cell st.blk 2).trans rfl
  have z0 := blk_frozen st.blk 2
  obtain ⟨y1, _⟩ := own_at st.ob p p0 p1
  obtain ⟨y2, v2⟩ := own_at st.ot p p0 p1
  obtain ⟨y3, v3⟩ := own_at st.ot q q0 q1
  have l1 := blk_lt st.blk
  have l2 : g1 < w.heap.size := own_lt st.ob g1 rfl
  have l3 : g2 < w.heap.size := own_lt st.ot g2 rfl
  have n1 := st.ne1
  have n2 := st.ne2
  have n3 := st.ne
  have n4 : p.toNat ≠ q.toNat := by omega
  have n5 : q.toNat ≠ p.toNat := by omega
  have b1 : decide (0 ≤ p) = true := decide_eq_true p0
  have b2 : decide (p < (n : Int)) = true := decide_eq_true p1
  have b3 : decide (0 ≤ q) = true := decide_eq_true q0
  have b4 : decide (q < (n : Int)) = true := decide_eq_true q1
  go_enter Try.func19, Try.ntmps19
  go_wp2
  go_quiet (fail)
  go_wp2
  go_quiet (fail)
  generalize hm : (if rd bal p < 0 then 0 else rd bal p) = m
  generalize ho : wrap64 (m - rd tr p) = own
  go_wp2
  go_quiet (fail)
  generalize hy : (if wrap64 (f4 - own) < 0 then 0 else wrap64 (f4 - own)) = y
  generalize hz : (if y < rd tr p then y else rd tr p) = z
  go_wp2
  go_end0
  subst hz hy ho hm
  exact ⟨rfl, St.setL (St.setT (st.below (pw_below_drewN (below_alloc (Below.refl _ _) _) _)) p _) _, (((Kp.refl w).alloc _).drewN _ |>.setT _ _).setL _ _⟩
end Go.Proofs.Ytljenpakncmlkaa.Tr
