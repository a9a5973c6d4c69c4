/- What an argument of a law reads as, kind by kind: each type's readings come out as values of the print's kinds. -/
import Derived.Deep.Slices
import Derived.Deep.Fields
import Derived.OpenShut
import Derived.ChangeArms
import Derived.Test.YtjeamaahhpbbkaaDoorV0
namespace Go.Proofs.YtjeamaahhpbbkaaDoor.Opens
open Go.RowKit Go.Deep Go.ChangeShapes Go.WideShapes Go.Proofs.YtjeamaahhpbbkaaDoorW.PrintWords

/-- The readings of a type come out as values of a kind. -/
def Opens {α : Type} (P : Program) (t : TypeId) (d : Kd α) (Ok : α → Prop) : Prop :=
  P.cellsOf t = d.sz ∧ ∀ {H : Type} {enc : TypeId × Value → H} {w : World} {base : Nat} {spare : Nat → Bool} {held : Bool} {fuel : Nat} {cs : List Value} {x : DataW H × List MemPlace},
    DataW.trod enc P w base spare held fuel t cs = some x → ∃ a, d.K w a cs ∧ Ok a

/-- The readings of types one behind the other. -/
def FieldsRead {H : Type} (enc : TypeId × Value → H) (P : Program) (w : World) (base : Nat) (spare : Nat → Bool) (held : Bool) (n : Nat) : List TypeId → List Value → Prop
  | [], cs => cs = []
  | t :: ts, cs => (∃ x, DataW.trod enc P w base spare held n t (cs.take (P.cellsOf t)) = some x) ∧ FieldsRead enc P w base spare held n ts (cs.drop (P.cellsOf t))

def OpensL {α : Type} (P : Program) (ts : List TypeId) (d : Kd α) (Ok : α → Prop) : Prop :=
  (ts.map P.cellsOf).sum = d.sz ∧ ∀ {H : Type} {enc : TypeId × Value → H} {w : World} {base : Nat} {spare : Nat → Bool} {held : Bool} {n : Nat} {cs : List Value},
    FieldsRead enc P w base spare held n ts cs → ∃ a, d.K w a cs ∧ Ok a

variable {P : Program}
theorem opens_int {t : TypeId} {k : IntKind} (ht : P.underlying t = some (.int k)) (hc : P.cellsOf t = 1) : Opens P t (Kd.int k) (fun n => (Lit.int k n).wf = true) := by
  refine ⟨hc, fun h => ?_⟩
  obtain ⟨n, rfl, _, hw⟩ := DataW.trod_int ht h
  exact ⟨n, rfl, hw⟩
theorem opens_bool {t : TypeId} (ht : P.underlying t = some .bool) (hc : P.cellsOf t = 1) : Opens P t Kd.bool (fun _ => True) := by
  refine ⟨hc, fun h => ?_⟩
  obtain ⟨n, rfl, _⟩ := DataW.trod_bool ht h
  exact ⟨n, rfl, trivial⟩
theorem opens_string {t : TypeId} (ht : P.underlying t = some .string) (hc : P.cellsOf t = 1) : Opens P t Kd.string (fun s => s.size ≤ maxLen) := by
  refine ⟨hc, fun h => ?_⟩
  obtain ⟨n, rfl, _, hw⟩ := DataW.trod_string ht h
  exact ⟨n, rfl, hw⟩
theorem opensL_one {α : Type} {t : TypeId} {d : Kd α} {Ok : α → Prop} (h : Opens P t d Ok) : OpensL P [t] d Ok := by
  refine ⟨by simpa using h.1, ?_⟩
  intro H enc w base spare held n cs hf
  obtain ⟨⟨x, hx⟩, he⟩ := hf
  obtain ⟨a, ha, hok⟩ := h.2 hx
  refine ⟨a, ?_, hok⟩
  have e : cs.drop (P.cellsOf t) = [] := he
  have h2 := List.take_append_drop (P.cellsOf t) cs
  rw [e, List.append_nil] at h2
  rwa [h2] at ha
theorem opensL_cons {α β : Type} {t : TypeId} {ts : List TypeId} {d1 : Kd α} {d2 : Kd β} {Ok1 : α → Prop} {Ok2 : β → Prop} (h1 : Opens P t d1 Ok1) (h2 : OpensL P ts d2 Ok2) :
    OpensL P (t :: ts) (Kd.pair d1 d2) (fun p => Ok1 p.1 ∧ Ok2 p.2) := by
  refine ⟨by simp only [List.map_cons, List.sum_cons, h1.1, h2.1]; rfl, ?_⟩
  intro H enc w base spare held n cs hf
  obtain ⟨⟨x, hx⟩, he⟩ := hf
  obtain ⟨a, ha, hok⟩ := h1.2 hx
  obtain ⟨b, hb, hok2⟩ := h2.2 he
  exact ⟨(a, b), ⟨_, _, (List.take_append_drop (P.cellsOf t) cs).symm, ha, hb⟩, hok, hok2⟩
theorem opens_iso {α β : Type} {t : TypeId} {d : Kd α} {Ok : α → Prop} (f : β → α) (g : α → β) (hfg : ∀ a, f (g a) = a) (h : Opens P t d Ok) : Opens P t (Kd.iso d f) (fun b => Ok (f b)) := by
  refine ⟨h.1, fun hx => ?_⟩
  obtain ⟨a, ha, hok⟩ := h.2 hx
  refine ⟨g a, ?_, ?_⟩
  · show d.K _ (f (g a)) _
    rw [hfg]; exact ha
  · show Ok (f (g a))
    rw [hfg]; exact hok
/-- From readings at places to readings one behind the other. -/
theorem fieldsRead_of {H : Type} {enc : TypeId × Value → H} {w : World} {base : Nat} {spare : Nat → Bool} {held : Bool} {n : Nat} (ts : List TypeId) (cs : List Value) (hl : cs.length = (ts.map P.cellsOf).sum)
    (h : ∀ i t, ts[i]? = some t → ∃ x, DataW.trod enc P w base spare held n t ((cs.drop ((ts.take i).map P.cellsOf).sum).take (P.cellsOf t)) = some x) : FieldsRead enc P w base spare held n ts cs := by
  induction ts generalizing cs with
  | nil => exact List.eq_nil_of_length_eq_zero (by simpa using hl)
  | cons t ts ih =>
    refine ⟨by simpa using h 0 t rfl, ih _ ?_ (fun i u hu => ?_)⟩
    · rw [List.length_drop, hl]; simp
    · obtain ⟨x, hx⟩ := h (i + 1) u (by simpa using hu)
      refine ⟨x, ?_⟩
      rw [List.drop_drop]
      simpa using hx
/-- The fields lie one behind the other. -/
def offsOk (P : Program) (fs : Array Field) (ts : List TypeId) : Bool := (List.range fs.size).all fun i => (fs[i]?.map (·.offset)) == some (((ts.take i).map P.cellsOf).sum)
theorem opens_struct {α : Type} {t : TypeId} {fs : Array Field} {ts : List TypeId} {d : Kd α} {Ok : α → Prop} (ht : P.underlying t = some (.struct fs)) (hts : fs.toList.map (·.type) = ts)
    (hoff : offsOk P fs ts = true) (hc : P.cellsOf t = (ts.map P.cellsOf).sum) (h : OpensL P ts d Ok) : Opens P t d Ok := by
  refine ⟨hc.trans h.1, ?_⟩
  intro H enc w base spare held fuel cs x hx
  obtain ⟨xs, n, _, _, hl, hlen, hf⟩ := DataW.trod_struct ht hx
  refine h.2 (fieldsRead_of (enc := enc) (w := w) (base := base) (spare := spare) (held := held) (n := n) ts cs (hl.trans hc) (fun i u hu => ?_))
  subst hts
  obtain ⟨f, hfi, rfl⟩ : ∃ f, fs[i]? = some f ∧ f.type = u := by
    rw [List.getElem?_map, Option.map_eq_some_iff] at hu
    obtain ⟨f, hf1, hf2⟩ := hu
    exact ⟨f, by simpa using hf1, hf2⟩
  have h1 := hf i f hfi
  have ho := List.all_eq_true.1 hoff i (List.mem_range.2 (Array.getElem?_eq_some_iff.1 hfi).1)
  rw [hfi] at ho
  have ho2 : f.offset = ((( fs.toList.map (·.type)).take i).map P.cellsOf).sum := by simpa using ho
  rw [ho2] at h1
  have hi : i < xs.length := by rw [hlen]; exact (Array.getElem?_eq_some_iff.1 hfi).1
  exact ⟨_, h1.trans (List.getElem?_eq_getElem hi)⟩
theorem sum_take_replicate (m c : Nat) (e : TypeId) (hc : P.cellsOf e = c) : ∀ i, i ≤ m → (((List.replicate m e).take i).map P.cellsOf).sum = i * c := by
  intro i hi
  rw [List.take_replicate, Nat.min_eq_left hi, List.map_replicate, hc]
  simp
theorem opens_array {α : Type} {t e : TypeId} {m : Nat} {d : Kd α} {Ok : α → Prop} (ht : P.underlying t = some (.array m e)) (hc : P.cellsOf t = m * P.cellsOf e) (h : OpensL P (List.replicate m e) d Ok) : Opens P t d Ok := by
  have hs : ((List.replicate m e).map P.cellsOf).sum = m * P.cellsOf e := by
    have := sum_take_replicate (P := P) m _ e rfl m (Nat.le_refl _)
    rwa [List.take_of_length_le (by simp)] at this
  refine ⟨hc.trans (hs.symm.trans h.1), ?_⟩
  intro H enc w base spare held fuel cs x hx
  obtain ⟨xs, n, _, _, hl, hlen, hf⟩ := DataW.trod_array ht hx
  refine h.2 (fieldsRead_of (enc := enc) (w := w) (base := base) (spare := spare) (held := held) (n := n) _ cs (by rw [hl, hc, hs]) (fun i u hu => ?_))
  rw [List.getElem?_replicate] at hu
  split at hu
  · rename_i hi
    obtain rfl := Option.some.inj hu
    rw [sum_take_replicate m _ e rfl i (Nat.le_of_lt hi)]
    exact ⟨_, (hf i hi).trans (List.getElem?_eq_getElem (by omega))⟩
  · cases hu
theorem opens_slice {α : Type} [Inhabited α] {t e : TypeId} {d : Kd α} {Ok : α → Prop} (ht : P.underlying t = some (.slice e)) (hc : P.cellsOf t = 1) (h : Opens P e d Ok) : Opens P t (Kd.slice e d) (fun xs => xs.length ≤ maxLen ∧ ∀ x ∈ xs, Ok x) := by
  refine ⟨hc, ?_⟩
  intro H enc w base spare held fuel cs x hx
  rcases open_slice ht hx with ⟨rfl, _⟩ | ⟨a, len, cap, m, n, D, Pl, rfl, _, hl, hm, hmm, _, hi⟩
  · exact ⟨[], ⟨none, 0, rfl, Nat.le_refl _, rfl, by simp, fun hp => by simp at hp⟩, by simp, fun x hx => by cases hx⟩
  · have hlm : len ≤ m := by rw [hmm]; split <;> omega
    have hall : ∀ i, ∃ v : α, i < len → (∃ c, c.length = d.sz ∧ d.K w v c ∧ ∀ j u, c[j]? = some u → w.cell? (a.add (i * d.sz + j)) = some u) ∧ Ok v := by
      intro i
      by_cases hil : i < len
      · obtain ⟨c, hc1, hc2⟩ := hi i (by omega)
        obtain ⟨v, hv, hok⟩ := h.2 hc2
        obtain ⟨_, hcl, hat⟩ := World.cells?_some hc1
        rw [h.1] at hcl hat
        refine ⟨v, fun _ => ⟨⟨c, hcl, hv, fun j u hu => ?_⟩, hok⟩⟩
        have hj : j < d.sz := by rw [← hcl]; exact (List.getElem?_eq_some_iff.1 hu).1
        rw [← Go.Deep.add_add]
        exact (hat j hj).trans hu
      · exact ⟨default, fun hh => absurd hh hil⟩
    obtain ⟨F, hF⟩ := Classical.axiomOfChoice hall
    have hlen : ((List.range len).map F).length = len := by simp
    refine ⟨(List.range len).map F, ⟨some a, cap, by rw [hlen], by rw [hlen]; exact hl, rfl, ?_, fun _ => ⟨a, rfl, fun j p hj => ?_⟩⟩, ?_, fun x hx => ?_⟩
    · rw [hlen]; unfold maxLen at hm; omega
    · rw [List.getElem?_map, Option.map_eq_some_iff] at hj
      obtain ⟨i, hi2, rfl⟩ := hj
      obtain ⟨hjl, rfl⟩ := List.getElem?_eq_some_iff.1 hi2
      rw [List.getElem_range]
      exact (hF j (by simpa using hjl)).1
    · rw [hlen]; omega
    · rw [List.mem_map] at hx
      obtain ⟨i, hi2, rfl⟩ := hx
      exact (hF i (by simpa using hi2)).2
theorem opens_mono {α : Type} {t : TypeId} {d : Kd α} {Ok Ok' : α → Prop} (h : Opens P t d Ok) (hm : ∀ a, Ok a → Ok' a) : Opens P t d Ok' :=
  ⟨h.1, fun hx => by obtain ⟨a, ha, hok⟩ := h.2 hx; exact ⟨a, ha, hm a hok⟩⟩
/-- An argument of the call. -/
theorem opens_arg {α : Type} {t : TypeId} {d : Kd α} {Ok : α → Prop} (h : Opens P t d Ok) {H : Type} {enc : TypeId × Value → H} {w : World} {base : Nat} {spare : Nat → Bool} {held : Bool} {v : Value} {x : DataW H} {ps : List MemPlace}
    (hx : DataW.Trod enc P w base spare held t v x ps) : ∃ a, d.K w a v.cells.toList ∧ Ok a := by
  obtain ⟨fuel, hf⟩ := hx
  exact h.2 hf
end Go.Proofs.YtjeamaahhpbbkaaDoor.Opens
