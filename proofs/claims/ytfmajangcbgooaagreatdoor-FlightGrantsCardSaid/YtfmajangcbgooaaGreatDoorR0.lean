
/- How an argument of any kind (texts, numbers, bools, structs, rows of these) is opened: what is read as data lies in memory as the print's kinds say it. -/
import Derived.Test.YtfmajangcbgooaaGreatDoorWWords
import Derived.Test.YtfmajangcbgooaaGreatDoorWSized
import Derived.ChangeArms
import Derived.Deep.Slices
import Derived.WalkKit
import Derived.OpenShut
namespace Go.Proofs.YtfmajangcbgooaaGreatDoorW.PrintWords
open Go.ChangeShapes Go.WideShapes Go.Deep
set_option linter.unusedVariables false
set_option linter.unusedSimpArgs false

/-- Whatever is read as data of type t has cells as the kind d says, and B holds of it. -/
def Opn {α : Type} (P : Program) (t : TypeId) (d : Kd α) (B : α → Prop) : Prop :=
  ∀ {H : Type} (enc : TypeId × Value → H) (w : World) (base : Nat) (spare : Nat → Bool) (held : Bool) (fuel : Nat) (cs : List Value) (x : DataW H × List MemPlace),
    DataW.trod enc P w base spare held fuel t cs = some x → ∃ v, d.K w v cs ∧ B v
section
variable {P : Program} {t e : TypeId}
theorem opn_string (ht : P.underlying t = some .string) : Opn P t Kd.string (fun s => s.size ≤ maxLen) := by
  intro H enc w base spare held fuel cs x h
  obtain ⟨s, rfl, _, hs⟩ := DataW.trod_string ht h
  exact ⟨s, rfl, hs⟩
theorem opn_int {k : IntKind} (ht : P.underlying t = some (.int k)) : Opn P t (Kd.int k) (fun n => (Lit.int k n).wf = true) := by
  intro H enc w base spare held fuel cs x h
  obtain ⟨n, rfl, _, hs⟩ := DataW.trod_int ht h
  exact ⟨n, rfl, hs⟩
theorem opn_bool (ht : P.underlying t = some .bool) : Opn P t Kd.bool (fun _ => True) := by
  intro H enc w base spare held fuel cs x h
  obtain ⟨b, rfl, _⟩ := DataW.trod_bool ht h
  exact ⟨b, rfl, trivial⟩
theorem Opn.mono {α : Type} {d : Kd α} {B B' : α → Prop} (h : Opn P t d B) (hb : ∀ v, B v → B' v) : Opn P t d B' := by
  intro H enc w base spare held fuel cs x hx
  obtain ⟨v, hk, hv⟩ := h enc w base spare held fuel cs x hx
  exact ⟨v, hk, hb v hv⟩
theorem opn_iso {α β : Type} {d : Kd α} {B : α → Prop} (h : Opn P t d B) (f : β → α) (g : α → β) (hfg : ∀ x, f (g x) = x) : Opn P t (Kd.iso d f) (fun y => B (f y)) := by
  intro H enc w base spare held fuel cs x hx
  obtain ⟨v, hk, hv⟩ := h enc w base spare held fuel cs x hx
  exact ⟨g v, by show d.K w (f (g v)) cs; rw [hfg]; exact hk, by show B (f (g v)); rw [hfg]; exact hv⟩

/-- The cells of some fields of a struct, from the field at o on. -/
def Seg {α : Type} (P : Program) (fs : List Field) (o n : Nat) (d : Kd α) (B : α → Prop) : Prop :=
  ∀ {H : Type} (enc : TypeId × Value → H) (w : World) (base : Nat) (spare : Nat → Bool) (held : Bool) (k : Nat) (cs : List Value), cs.length = n →
    (∀ f, f ∈ fs → ∃ y, DataW.trod enc P w base spare held k f.type ((cs.drop (f.offset - o)).take (P.cellsOf f.type)) = some y) → ∃ v, d.K w v cs ∧ B v
theorem seg_one {α : Type} {d : Kd α} {B : α → Prop} {f : Field} {n o : Nat} (ho : f.offset = o) (hn : P.cellsOf f.type = n) (h : Opn P f.type d B) : Seg P [f] o n d B := by
  intro H enc w base spare held k cs hl hf
  obtain ⟨y, hy⟩ := hf f (by simp)
  rw [ho, Nat.sub_self, List.drop_zero, hn, List.take_of_length_le (by omega)] at hy
  exact h enc w base spare held k cs y hy
theorem seg_cons {α β : Type} {d : Kd α} {d' : Kd β} {B : α → Prop} {B' : β → Prop} {f : Field} {fs : List Field} {n m o : Nat} (ho : f.offset = o) (hn : P.cellsOf f.type = n) (hge : ∀ f' ∈ fs, o + n ≤ f'.offset) (h : Opn P f.type d B) (hs : Seg P fs (o + n) m d' B') :
    Seg P (f :: fs) o (n + m) (Kd.pair d d') (fun v => B v.1 ∧ B' v.2) := by
  intro H enc w base spare held k cs hl hf
  obtain ⟨y, hy⟩ := hf f (by simp)
  rw [ho, Nat.sub_self, List.drop_zero, hn] at hy
  obtain ⟨v, hk, hv⟩ := h enc w base spare held k _ y hy
  obtain ⟨v', hk', hv'⟩ := hs enc w base spare held k (cs.drop n) (by rw [List.length_drop]; omega) (fun f' hf' => by
    obtain ⟨y', hy'⟩ := hf f' (List.mem_cons_of_mem _ hf')
    have := hge f' hf'
    refine ⟨y', ?_⟩
    rw [List.drop_drop, show n + (f'.offset - (o + n)) = f'.offset - o by omega]
    exact hy')
  exact ⟨(v, v'), ⟨cs.take n, cs.drop n, (List.take_append_drop n cs).symm, hk, hk'⟩, hv, hv'⟩
theorem opn_struct {α : Type} {d : Kd α} {B : α → Prop} {fs : Array Field} {n : Nat} (ht : P.underlying t = some (.struct fs)) (hc : P.cellsOf t = n) (h : Seg P fs.toList 0 n d B) : Opn P t d B := by
  intro H enc w base spare held fuel cs x hx
  obtain ⟨xs, k, _, _, hl, hxl, hf⟩ := DataW.trod_struct ht hx
  refine h enc w base spare held k cs (hl.trans hc) (fun f hm => ?_)
  obtain ⟨i, hi, he⟩ := List.getElem_of_mem hm
  have hi' : i < fs.size := by simpa using hi
  have h1 : fs[i]? = some f := by rw [← he]; simp [hi']
  have := hf i f h1
  rw [Nat.sub_zero]
  refine ⟨xs[i]'(by omega), ?_⟩
  rw [this, List.getElem?_eq_getElem]
theorem opn_slice {α : Type} {d : Kd α} {B : α → Prop} (q : Nat) (ht : P.underlying t = some (.slice e)) (hc : P.cellsOf e = d.sz) (h : Opn P e d B) : Opn P t (Kd.slice q d) (fun l => l.length ≤ maxLen ∧ ∀ x ∈ l, B x) := by
  intro H enc w base spare held fuel cs x hx
  rcases open_slice ht hx with ⟨rfl, _⟩ | ⟨a, len, cap, m, n, D, Pl, rfl, hb, hl, hm, hmm, rfl, hel⟩
  · exact ⟨[], ⟨none, 0, rfl, by simp, rfl, by simp, fun h => absurd h (by simp)⟩, by simp, by simp⟩
  · have hlm : len ≤ m := by rw [hmm]; split <;> omega
    have each : ∀ i, i < len → ∃ q : α × List Value, w.cells? base (a.add (i * P.cellsOf e)) (P.cellsOf e) = some q.2 ∧ d.K w q.1 q.2 ∧ B q.1 := by
      intro i hi
      obtain ⟨cs', h1, h2⟩ := hel i (by omega)
      obtain ⟨v, hk, hv⟩ := h enc w base spare held n cs' _ h2
      exact ⟨(v, cs'), h1, hk, hv⟩
    by_cases hz : len = 0
    · subst hz
      exact ⟨[], ⟨some a, cap, rfl, by simp, rfl, by simp, fun h => absurd h (by simp)⟩, by simp, by simp⟩
    · obtain ⟨q0, _⟩ := each 0 (by omega)
      haveI : Inhabited (α × List Value) := ⟨q0⟩
      obtain ⟨F, hF⟩ := choose_lt each
      have hlen : ((List.range len).map fun i => (F i).1).length = len := by simp
      refine ⟨(List.range len).map fun i => (F i).1, ⟨some a, cap, by rw [hlen], by rw [hlen]; exact hl, ?_⟩, by rw [hlen]; omega, fun v hv => ?_⟩
      · refine ⟨rfl, by rw [hlen]; unfold maxLen at hm; omega, fun _ => ⟨a, rfl, fun j p hj => ?_⟩⟩
        have hj' : j < len := by have := (List.getElem?_eq_some_iff.1 hj).1; omega
        obtain ⟨h1, hk, _⟩ := hF j hj'
        have hp : p = (F j).1 := by
          rw [List.getElem?_map, List.getElem?_range hj'] at hj
          simpa using hj.symm
        subst hp
        obtain ⟨_, hcl, hcell⟩ := World.cells?_some h1
        refine ⟨(F j).2, by rw [hcl, hc], hk, fun i u hu => ?_⟩
        have hi : i < (F j).2.length := (List.getElem?_eq_some_iff.1 hu).1
        have := hcell i (by omega)
        rw [add_add, hc] at this
        rw [this]
        exact hu
      · obtain ⟨i, hi, rfl⟩ := List.mem_map.1 hv
        exact (hF i (List.mem_range.1 hi)).2.2
theorem opn_trod {H : Type} {enc : TypeId × Value → H} {w : World} {base : Nat} {spare : Nat → Bool} {held : Bool} {α : Type} {d : Kd α} {B : α → Prop} {v : Value} {D : DataW H} {ps : List MemPlace} (h : Opn P t d B) (hv : DataW.Trod enc P w base spare held t v D ps) : ∃ x, d.K w x v.cells.toList ∧ B x := by
  obtain ⟨fuel, hf⟩ := hv
  exact h enc w base spare held fuel _ _ hf
/-- A slice that came in. -/
theorem opn_slice_arg {H : Type} {enc : TypeId × Value → H} {w : World} {base : Nat} {spare : Nat → Bool} {held : Bool} {α : Type} {d : Kd α} {B : List α → Prop} {A : Option Addr} {n c q : Nat} {D : DataW H} {ps : List MemPlace} (h : Opn P t (Kd.slice q d) B) (hv : DataW.Trod enc P w base spare held t (.slice A n c) D ps) :
    ∃ l, n = l.length ∧ d.C w A l.length l ∧ l.length ≤ c ∧ B l := by
  obtain ⟨l, ⟨A', c', e, hl, hC⟩, hb⟩ := opn_trod h hv
  simp [Value.cells] at e
  obtain ⟨rfl, rfl, rfl⟩ := e
  exact ⟨l, rfl, hC, hl, hb⟩
end
end Go.Proofs.YtfmajangcbgooaaGreatDoorW.PrintWords
