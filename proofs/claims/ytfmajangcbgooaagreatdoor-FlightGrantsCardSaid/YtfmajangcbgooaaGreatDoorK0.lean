/- Words of the print and of the shelf (the kit's), cut to what this claim leans on. -/
import Derived.Test.YtfmajangcbgooaaGreatDoorG0
namespace Go.Proofs.YtfmajangcbgooaaGreatDoor.Pr
open Go.RowKit Go.Proofs.YtfmajangcbgooaaGreatDoorW.PrintWords Go.Proofs.YtfmajangcbgooaaGreatDoorW.PrintLast Go.Proofs.YtfmajangcbgooaaGreatDoorW.PrintMore
theorem iteN_ {α : Type} {p : Prop} [Decidable p] {a : Option α} {r : α} (h : (if p then a else none) = some r) : p ∧ a = some r := by
  by_cases hp : p
  · rw [if_pos hp] at h; exact ⟨hp, h⟩
  · rw [if_neg hp] at h; cases h
theorem itePP_ {α : Type} {p : Prop} [Decidable p] {a b x : α} {G : Prop} (h1 : p → a = x → G) (h2 : ¬ p → b = x → G) (h : (if p then a else b) = x) : G := by
  by_cases c : p
  · rw [if_pos c] at h; exact h1 c h
  · rw [if_neg c] at h; exact h2 c h
theorem iteDP_ {α : Type} {p : Prop} [Decidable p] {a b x : α} {G : Prop} (h1 : decide p = true → a = x → G) (h2 : ¬ p → b = x → G) (h : (if p then a else b) = x) : G := by
  by_cases c : p
  · rw [if_pos c] at h; exact h1 (decide_eq_true c) h
  · rw [if_neg c] at h; exact h2 c h
theorem iteDD_ {α : Type} {p : Prop} [Decidable p] {a b x : α} {G : Prop} (h1 : decide p = true → a = x → G) (h2 : decide p = false → b = x → G) (h : (if p then a else b) = x) : G := by
  by_cases c : p
  · rw [if_pos c] at h; exact h1 (decide_eq_true c) h
  · rw [if_neg c] at h; exact h2 (decide_eq_false c) h
theorem iteEF_ {α β : Type} {u v : β} [BEq β] [LawfulBEq β] [Decidable (u = v)] {a b x : α} {G : Prop} (h1 : (u == v) = true → (u != v) = false → a = x → G) (h2 : ¬ u = v → (u == v) = false → (u != v) = true → b = x → G) (h : (if u = v then a else b) = x) : G := by
  by_cases c : u = v
  · rw [if_pos c] at h; exact h1 (beq_iff_eq.mpr c) (bne_eq_false_iff_eq.mpr c) h
  · rw [if_neg c] at h; exact h2 c (beq_eq_false_iff_ne.mpr c) (bne_iff_ne.mpr c) h
theorem iteGG_ {α : Type} {m n : Int} {a b x : α} {G : Prop} (h1 : decide (n < m) = true → a = x → G) (h2 : decide (n < m) = false → b = x → G) (h : (if m > n then a else b) = x) : G := iteDD_ h1 h2 h
theorem iteJJ_ {α : Type} {m n : Int} {a b x : α} {G : Prop} (h1 : decide (n ≤ m) = true → a = x → G) (h2 : decide (n ≤ m) = false → b = x → G) (h : (if m ≥ n then a else b) = x) : G := iteDD_ h1 h2 h
theorem iteB_ {α : Type} {p : Bool} {a b x : α} {G : Prop} (h1 : p = true → a = x → G) (h2 : p = false → b = x → G) (h : (if p = true then a else b) = x) : G := by
  cases p
  · exact h2 rfl h
  · exact h1 rfl h
theorem iteNP_ {α : Type} {p : Prop} [Decidable p] {a : Option α} {x : α} {G : Prop} (h1 : p → a = some x → G) (h : (if p then a else none) = some x) : G := by
  obtain ⟨c, h⟩ := iteN_ h
  exact h1 c h
theorem iteND_ {α : Type} {p : Prop} [Decidable p] {a : Option α} {x : α} {G : Prop} (h1 : decide p = true → a = some x → G) (h : (if p then a else none) = some x) : G := by
  obtain ⟨c, h⟩ := iteN_ h
  exact h1 (decide_eq_true c) h
theorem iteNA_ {α : Type} {p : Prop} [Decidable p] {a : Option α} {x : α} {G : Prop} (h1 : Aside0 p → a = some x → G) (h : (if p then a else none) = some x) : G := by
  obtain ⟨c, h⟩ := iteN_ h
  exact h1 ⟨c⟩ h
theorem iteNT_ {α : Type} {p : Prop} [Decidable p] {a : Option α} {x : α} {G : Prop} (h1 : (p = True) → decide p = true → a = some x → G) (h : (if p then a else none) = some x) : G := by
  obtain ⟨c, h⟩ := iteN_ h
  exact h1 (eq_true c) (decide_eq_true c) h
theorem bsm_ {α β : Type} {a : α} {f : α → Option β} {x : Option β} (h : (some a).bind f = x) : f a = x := h
theorem bd_ {α β : Type} {o : Option α} {f : α → Option β} {r : β} (h : o.bind f = some r) : ∃ t, Aside0 (o = some t) ∧ f t = some r := by
  obtain ⟨t, h1, h2⟩ := Option.bind_eq_some_iff.mp h
  exact ⟨t, ⟨h1⟩, h2⟩
theorem bA {w W : World} (h : Below w.heap.size w W) (o : Obj) : Below w.heap.size w (W.alloc o) := below_alloc h o
theorem bN {B : Nat} {w W : World} (h : Below B w W) (n : Nat) : Below B w (W.drewN n) := pw_below_drewN h n
theorem bD {base : Nat} {w W : World} (h : Below base w W) : Below base w W.drew := below_drew1 h
theorem bW {w W : World} {g j : Nat} {v : Value} (h : Below w.heap.size w W) (hg : w.heap.size ≤ g) : Below w.heap.size w (W.setCell ⟨g, j, none⟩ v) := below_set h hg
theorem bS {w W w2 : World} (h : Below w.heap.size w W) (k : Below W.heap.size W w2) : Aside0 (Below w.heap.size w w2) := ⟨below_step h k⟩
theorem kA {w : World} {g : Nat} {o : Obj} (h : w.heap[g]? = some o) (o' : Obj) : (w.alloc o').heap[g]? = some o := blk_alloc h o'
theorem kD {w : World} {g : Nat} {o : Obj} (h : w.heap[g]? = some o) : w.drew.heap[g]? = some o := h
theorem kN {w : World} {g : Nat} {o : Obj} (h : w.heap[g]? = some o) (n : Nat) : (w.drewN n).heap[g]? = some o := h
theorem bx_ {w W w1 : World} {g : Nat} {o : Obj} (h : Below w.heap.size w W) (hg : g = W.heap.size) (hx : w1.heap[g]? = some o) (hb : Below W.heap.size W w1) : Aside0 (Below w.heap.size w w1) ∧ Aside0 (w1.heap[g]? = some o) ∧ Aside0 (w.heap.size ≤ g) :=
  ⟨⟨below_step h hb⟩, ⟨hx⟩, ⟨by rw [hg]; exact below_size h⟩⟩
section
variable {w : World} {g : Nat} {t : TypeId} {a b c d e f i j k l m : Value}
theorem bk1_ (h : Aside0 (w.heap[g]? = some (.cells #[a] t (0, 0)))) : w.cell? ⟨g, 0, none⟩ = some a ∧ w.frozen? ⟨g, 0, none⟩ = false := ⟨blk_cell h.out 0, blk_frozen h.out 0⟩
theorem bk2_ (h : Aside0 (w.heap[g]? = some (.cells #[a, b] t (0, 0)))) : w.cell? ⟨g, 0, none⟩ = some a ∧ w.cell? ⟨g, 1, none⟩ = some b ∧ w.frozen? ⟨g, 0, none⟩ = false ∧ w.frozen? ⟨g, 1, none⟩ = false := ⟨blk_cell h.out 0, blk_cell h.out 1, blk_frozen h.out 0, blk_frozen h.out 1⟩
theorem bk3_ (h : Aside0 (w.heap[g]? = some (.cells #[a, b, c] t (0, 0)))) : w.cell? ⟨g, 0, none⟩ = some a ∧ w.cell? ⟨g, 1, none⟩ = some b ∧ w.cell? ⟨g, 2, none⟩ = some c ∧ w.frozen? ⟨g, 0, none⟩ = false ∧ w.frozen? ⟨g, 1, none⟩ = false ∧ w.frozen? ⟨g, 2, none⟩ = false := ⟨blk_cell h.out 0, blk_cell h.out 1, blk_cell h.out 2, blk_frozen h.out 0, blk_frozen h.out 1, blk_frozen h.out 2⟩
theorem bk5_ (h : Aside0 (w.heap[g]? = some (.cells #[a, b, c, d, e] t (0, 0)))) : w.cell? ⟨g, 0, none⟩ = some a ∧ w.cell? ⟨g, 1, none⟩ = some b ∧ w.cell? ⟨g, 2, none⟩ = some c ∧ w.cell? ⟨g, 3, none⟩ = some d ∧ w.cell? ⟨g, 4, none⟩ = some e ∧ w.frozen? ⟨g, 0, none⟩ = false ∧ w.frozen? ⟨g, 1, none⟩ = false ∧ w.frozen? ⟨g, 2, none⟩ = false ∧ w.frozen? ⟨g, 3, none⟩ = false ∧ w.frozen? ⟨g, 4, none⟩ = false := ⟨blk_cell h.out 0, blk_cell h.out 1, blk_cell h.out 2, blk_cell h.out 3, blk_cell h.out 4, blk_frozen h.out 0, blk_frozen h.out 1, blk_frozen h.out 2, blk_frozen h.out 3, blk_frozen h.out 4⟩
theorem bk6_ (h : Aside0 (w.heap[g]? = some (.cells #[a, b, c, d, e, f] t (0, 0)))) : w.cell? ⟨g, 0, none⟩ = some a ∧ w.cell? ⟨g, 1, none⟩ = some b ∧ w.cell? ⟨g, 2, none⟩ = some c ∧ w.cell? ⟨g, 3, none⟩ = some d ∧ w.cell? ⟨g, 4, none⟩ = some e ∧ w.cell? ⟨g, 5, none⟩ = some f ∧ w.frozen? ⟨g, 0, none⟩ = false ∧ w.frozen? ⟨g, 1, none⟩ = false ∧ w.frozen? ⟨g, 2, none⟩ = false ∧ w.frozen? ⟨g, 3, none⟩ = false ∧ w.frozen? ⟨g, 4, none⟩ = false ∧ w.frozen? ⟨g, 5, none⟩ = false := ⟨blk_cell h.out 0, blk_cell h.out 1, blk_cell h.out 2, blk_cell h.out 3, blk_cell h.out 4, blk_cell h.out 5, blk_frozen h.out 0, blk_frozen h.out 1, blk_frozen h.out 2, blk_frozen h.out 3, blk_frozen h.out 4, blk_frozen h.out 5⟩
theorem bk10_ (h : Aside0 (w.heap[g]? = some (.cells #[a, b, c, d, e, f, i, j, k, l] t (0, 0)))) : w.cell? ⟨g, 0, none⟩ = some a ∧ w.cell? ⟨g, 1, none⟩ = some b ∧ w.cell? ⟨g, 2, none⟩ = some c ∧ w.cell? ⟨g, 3, none⟩ = some d ∧ w.cell? ⟨g, 4, none⟩ = some e ∧ w.cell? ⟨g, 5, none⟩ = some f ∧ w.cell? ⟨g, 6, none⟩ = some i ∧ w.cell? ⟨g, 7, none⟩ = some j ∧ w.cell? ⟨g, 8, none⟩ = some k ∧ w.cell? ⟨g, 9, none⟩ = some l ∧ w.frozen? ⟨g, 0, none⟩ = false ∧ w.frozen? ⟨g, 1, none⟩ = false ∧ w.frozen? ⟨g, 2, none⟩ = false ∧ w.frozen? ⟨g, 3, none⟩ = false ∧ w.frozen? ⟨g, 4, none⟩ = false ∧ w.frozen? ⟨g, 5, none⟩ = false ∧ w.frozen? ⟨g, 6, none⟩ = false ∧ w.frozen? ⟨g, 7, none⟩ = false ∧ w.frozen? ⟨g, 8, none⟩ = false ∧ w.frozen? ⟨g, 9, none⟩ = false := ⟨blk_cell h.out 0, blk_cell h.out 1, blk_cell h.out 2, blk_cell h.out 3, blk_cell h.out 4, blk_cell h.out 5, blk_cell h.out 6, blk_cell h.out 7, blk_cell h.out 8, blk_cell h.out 9, blk_frozen h.out 0, blk_frozen h.out 1, blk_frozen h.out 2, blk_frozen h.out 3, blk_frozen h.out 4, blk_frozen h.out 5, blk_frozen h.out 6, blk_frozen h.out 7, blk_frozen h.out 8, blk_frozen h.out 9⟩
end
theorem btf_ {s : ByteArray} {x : Int} (h1 : decide (0 ≤ x) = true) (h2 : decide (x < (s.size : Int)) = true) : (0 ≤ x) = True ∧ (x < (s.size : Int)) = True ∧ ∀ h : x.toNat < s.size, ((s[x.toNat]'h).toNat : Int) = bt s x := ⟨eq_true (of_decide_eq_true h1), eq_true (of_decide_eq_true h2), bt_at s x⟩
class Kp_ (w W : World) : Prop where out : Below w.heap.size w W
instance Kp_.refl_ {w : World} : Kp_ w w := ⟨Below.refl _ _⟩
instance Kp_.alloc_ {w W : World} {o : Obj} [h : Kp_ w W] : Kp_ w (W.alloc o) := ⟨below_alloc h.out o⟩
instance Kp_.drewN_ {w W : World} {n : Nat} [h : Kp_ w W] : Kp_ w (W.drewN n) := ⟨pw_below_drewN h.out n⟩
instance Kp_.drew_ {w W : World} [h : Kp_ w W] : Kp_ w W.drew := ⟨below_drew1 h.out⟩
theorem kC {w W : World} {g : Nat} {o : Obj} (h : Aside0 (w.heap[g]? = some o)) [k : Kp_ w W] : W.heap[g]? = some o := blk_below h.out k.out
theorem kM {w W w1 : World} {g : Nat} {o : Obj} (h : Aside0 (w.heap[g]? = some o)) [k : Kp_ w W] (hb : Below W.heap.size W w1) : Aside0 (w1.heap[g]? = some o) := ⟨blk_below h.out (below_step k.out hb)⟩
theorem neL {w W : World} {g g' : Nat} {o : Obj} (h : Aside0 (w.heap[g]? = some o)) [k : Kp_ w W] (hg : g' = W.heap.size) : Aside0 (g ≠ g') := ⟨by rw [hg]; exact Nat.ne_of_lt (blk_lt (kC h))⟩
theorem neG {w W : World} {g g' : Nat} {o : Obj} (h : Aside0 (w.heap[g]? = some o)) [k : Kp_ w W] (hg : g' = W.heap.size) : Aside0 (g' ≠ g) := ⟨by rw [hg]; exact Nat.ne_of_gt (blk_lt (kC h))⟩
section
variable {α : Type} {d : Kd α} {e : Nat} {w W w1 : World} {base : Nat} {ok : Nat → Prop} {v : Value} {xs : List α}
theorem rK (h : d.R e w base ok v xs) [k : Kp_ w W] : d.R e W base ok v xs := Kd.R_below h k.out
theorem rM (h : Aside0 (d.R e w base ok v xs)) [k : Kp_ w W] (hb : Below W.heap.size W w1) : Aside0 (d.R e w1 base ok v xs) := ⟨Kd.R_below h.out (below_step k.out hb)⟩
end
theorem bE {P : Prop} (h : P := by repeat (first | (with_reducible first | exact HB.out | apply bA | apply bN | apply bD | refine bW ?_ (Aside0.out (by assumption))) | exact HB.out)) : P := h
theorem sE {w W : World} {g : Nat} (hg : g = W.heap.size) (h : Below w.heap.size w W := by repeat (first | (with_reducible first | exact HB.out | apply bA | apply bN | apply bD | refine bW ?_ (Aside0.out (by assumption))) | exact HB.out)) : Aside0 (w.heap.size ≤ g) := ⟨by rw [hg]; exact below_size h⟩
theorem rE {P : Prop} (h : P := by first | rfl | (simp [errW_none, errW_some] <;> rfl) | (simp [*, errW_none, errW_some] <;> rfl)) : P := h
theorem rS {P : Prop} (h : P := by first | rfl | (simp; done) | (simp [*]; done)) : P := h
theorem mE {P : Prop} (h : P := by first | (with_reducible assumption) | assumption) : P := h
theorem oE {P : Prop} (h : P := by first | omega | exact Nat.le_refl _) : P := h
section
variable {P : Program} {ops : Array Oper} {Q : Exit → Act → World → Prop}
theorem gL {rest : List Oper} {oi : Oper} {a : Act} {w : World} (N : Option Tmp) {f : FuncId} {fn : Func} {oa : Array Operand} {ts : Array TypeId} (hf : P.funcs[f]? = some fn) (args : Array Value)
    (h : Calls P f args w fun e w' => ∃ v, e = .returned v ∧ wpList P ops Q rest (a.put N v) w')
    (hd : oi.dst = N := by rfl) (hg : oi.guard = none := by rfl) (hname : (fn.name == "runtime.NumGoroutine") = false := by kernel_rfl) (hb : fn.body.isSome = true := by rfl)
    (hop : oi.op = .call { callee := .value (.func f), args := oa, argTypes := ts } := by rfl) (hargs : oa.map a.eval = args := by (try simp only [List.map_toArray, List.map_cons, List.map_nil]); first | done | rfl | (simp only [List.length_drop, List.length_take]; rfl)) :
    wpList P ops Q (oi :: rest) a w := goesL_ N hd hg hf hname hb args hop hargs h
end
theorem lE {P : Prop} (h : P := by repeat (first | (with_reducible exact hM_.out) | (with_reducible exact LaidW.below hM_.out HB.out) | (with_reducible refine LaidW.alloc ?_ _) | (with_reducible refine LaidW.drewN ?_ _) | (with_reducible refine LaidW.drew ?_) | exact LaidW.below hM_.out bE)) : P := h
theorem kPut {w : World} {g : Nat} {t : TypeId} {cs cs' : Array Value} {i : Nat} {u : Value} (h : w.heap[g]? = some (.cells cs t (0, 0))) (e : cs.setIfInBounds i u = cs') : (w.setCell ⟨g, i, none⟩ u).heap[g]? = some (.cells cs' t (0, 0)) := blk_put h i u e
theorem kF {w W w1 : World} {g : Nat} {o : Obj} (_h : Aside0 (w.heap[g]? = some o)) (hb : Below W.heap.size W w1) (k : W.heap[g]? = some o := by (repeat (first | exact Aside0.out (by with_reducible assumption) | (with_reducible refine kN ?_ _) | (with_reducible refine kD ?_) | (with_reducible refine kA ?_ _) | (with_reducible refine blk_far ?_ (Aside0.out (by with_reducible assumption)) _)))) : Aside0 (w1.heap[g]? = some o) := ⟨blk_below k hb⟩
theorem kT {P : Prop} (h : P := by (repeat (first | exact Aside0.out (by with_reducible assumption) | (with_reducible refine kN ?_ _) | (with_reducible refine kD ?_) | (with_reducible refine kA ?_ _) | (with_reducible refine blk_far ?_ (Aside0.out (by with_reducible assumption)) _) | (with_reducible refine kPut (cs := ?_) ?_ ?_; rotate_left))); all_goals (try simp only [List.setIfInBounds_toArray, List.set_cons_zero, List.set_cons_succ]); all_goals rfl) : P := h
section
variable {P : Program} {md : Region.Mode} {ops : Array Oper} {Q : Exit → Act → World → Prop} {S : World → Prop} {ds : List Nat}
theorem bxE {rest : List Oper} {o : Oper} {a : Act} {W : World} {N : Tmp} {cs : Array Value} {t : TypeId}
    (h : ∀ g, g = W.heap.size → ∀ w1, w1.heap[g]? = some (.cells cs t (0, 0)) → Below W.heap.size W w1 → wpList P ops Q rest (a.put o.dst (.pointer (some ⟨g, 0, none⟩))) w1)
    (hgd : o.guard = none := by rfl) (hd : o.dst = some N := by rfl)
    (hrun : (execOp a.eval o).run P W = .ok (.value (.pointer (some ⟨W.heap.size, 0, none⟩))) (W.alloc (.cells cs t (0, 0))) := by first | (go_simp; done) | (go_simp; rfl)) : wpList P ops Q (o :: rest) a W := box_event hgd hd hrun h
theorem gS {oi : Oper} {N : Option Tmp} {a : Act} {w : World} {K : Act → World → Prop} {f : FuncId} {fn : Func} {oa : Array Operand} {ts : Array TypeId} (hf : P.funcs[f]? = some fn) (args : Array Value)
    (h : Calls P f args w fun e w' => ∃ v, e = .returned v ∧ K (a.put N v) w')
    (hname : (fn.name == "runtime.NumGoroutine") = false := by kernel_rfl) (hb : fn.body.isSome = true := by rfl) (hw : Region.wanted oi (yielded ops a.tmps) = true := by rfl) (hN : oi.dst = N := by rfl)
    (hop : oi.op = .call { callee := .value (.func f), args := oa, argTypes := ts } := by rfl) (hargs : oa.map a.eval = args := by (try simp only [List.map_toArray, List.map_cons, List.map_nil]); first | done | rfl | (simp only [List.length_drop, List.length_take]; rfl)) :
    if Region.wanted oi (yielded ops a.tmps) = true then Oper.wp P oi a w K Q else K (a.put N undef) w := goes_ hf hname hb args hw hN hop hargs h
theorem nA (N : Tmp) {fuel : Nat} {l : Array Bool} {a a' : Act} {v : Value} {w : World} (h : wpAnyLast P md ops Q S ds fuel l a' w) (ha : a.put (some N) v = a' := by simp only [Act.put, List.setIfInBounds_toArray, List.set_cons_zero, List.set_cons_succ, i64_w, i32_w]; rfl) : wpAnyLast P md ops Q S ds fuel l (a.put (some N) v) w := norm_ ha h
def bz (n m : Nat) : Array Bool := ((List.range n).map m.testBit).toArray
theorem qA (i n p q : Nat) {oi : Oper} {v : Value} {fuel : Nat} {l : Array Bool} {a : Act} {w : World} {a' : Act} (h : wpAnyLast P md ops Q S ds fuel (bz p q) a' w) (hc : anyB md ops l (bz p q) i = true := by first | exact any_of HT_.out (by kernel_rfl) | kernel_rfl)
    (hi : ops[i]? = some oi := by rfl) (hN : oi.dst = some n := by rfl) (hQ : ∀ c a w, Q (.panic c) (a.put oi.dst v) w → Q (.panic c) a w := by exact fun _ _ _ h => h)
    (hy : Yields P ops oi v a := by refine Or.inl ⟨by rfl, ?_⟩; intro w'; go_simp; with_reducible rfl) (ha : a.put (some n) v = a' := by simp only [Act.put, List.setIfInBounds_toArray, List.set_cons_zero, List.set_cons_succ, i64_w, i32_w]; rfl) :
    wpAnyLast P md ops Q S ds (fuel + 1) l a w := pure_ (bz p q) hi hN hc hQ hy ha h
theorem qU (i n p q : Nat) {oi : Oper} {fuel : Nat} {l : Array Bool} {a : Act} {w : World} {a' : Act} (h : wpAnyLast P md ops Q S ds fuel (bz p q) a' w) (hc : anyB md ops l (bz p q) i = true := by first | exact any_of HT_.out (by kernel_rfl) | kernel_rfl)
    (hi : ops[i]? = some oi := by rfl) (hN : oi.dst = some n := by rfl) (hQ : ∀ c a w, Q (.panic c) (a.put oi.dst undef) w → Q (.panic c) a w := by exact fun _ _ _ h => h)
    (hy : Yields P ops oi undef a := by exact Or.inr ⟨by rfl, rfl⟩) (ha : a.put (some n) undef = a' := by simp only [Act.put, List.setIfInBounds_toArray, List.set_cons_zero, List.set_cons_succ, i64_w, i32_w]; rfl) :
    wpAnyLast P md ops Q S ds (fuel + 1) l a w := pure_ (bz p q) hi hN hc hQ hy ha h
theorem oB (i n p q : Nat) {oi : Oper} {fuel : Nat} {l : Array Bool} {a : Act} {w : World}
    (h : ∀ K : Act → World → Prop, Shut (∀ a' w', S w' → (S w' → wpAnyLast P md ops Q S ds fuel (bz p q) a' w') → K a' w') → if Region.wanted oi (yielded ops a.tmps) = true then Oper.wp P oi a w K Q else K (a.put (some n) undef) w)
    (hi : ops[i]? = some oi := by rfl) (hN : oi.dst = some n := by rfl) (hc : readyB md ops l (bz p q) i = true := by first | exact one_of HT_.out (by kernel_rfl) | kernel_rfl) (hd : i ∉ ds := by decide) :
    wpAnyLast P md ops Q S ds (fuel + 1) l a w := one_ (bz p q) hi hN hc hd h
theorem tA2 (i n p q : Nat) {oi : Oper} {v : Value} {fuel : Nat} {l : Array Bool} {a : Act} {w : World} {a' : Act} (h : wpAnyLast P md ops Q S ds fuel (bz p q) a' w) (hS : S w := by exact hHeld) (hc : takeB md ops ds l (bz p q) i = true := by first | exact take_ofW HT_.out HW_.out (by kernel_rfl) | kernel_rfl)
    (hi : ops[i]? = some oi := by rfl) (hN : oi.dst = some n := by rfl) (hQ : ∀ c a w, Q (.panic c) (a.put oi.dst v) w → Q (.panic c) a w := by exact fun _ _ _ h => h)
    (hy : YieldsIf P ops S oi v a := by refine Or.inl ⟨by rfl, ?_⟩; rintro w' ⟨s0, s1⟩; go_simp; with_reducible rfl) (ha : a.put (some n) v = a' := by simp only [Act.put, List.setIfInBounds_toArray, List.set_cons_zero, List.set_cons_succ, i64_w, i32_w]; rfl) :
    wpAnyLast P md ops Q S ds (fuel + 1) l a w := take_ (bz p q) hi hN hc hQ hy hS ha h
theorem tA3 (i n p q : Nat) {oi : Oper} {v : Value} {fuel : Nat} {l : Array Bool} {a : Act} {w : World} {a' : Act} (h : wpAnyLast P md ops Q S ds fuel (bz p q) a' w) (hS : S w := by exact hHeld) (hc : takeB md ops ds l (bz p q) i = true := by first | exact take_ofW HT_.out HW_.out (by kernel_rfl) | kernel_rfl)
    (hi : ops[i]? = some oi := by rfl) (hN : oi.dst = some n := by rfl) (hQ : ∀ c a w, Q (.panic c) (a.put oi.dst v) w → Q (.panic c) a w := by exact fun _ _ _ h => h)
    (hy : YieldsIf P ops S oi v a := by refine Or.inl ⟨by rfl, ?_⟩; rintro w' ⟨s0, s1, s2⟩; go_simp; with_reducible rfl) (ha : a.put (some n) v = a' := by simp only [Act.put, List.setIfInBounds_toArray, List.set_cons_zero, List.set_cons_succ, i64_w, i32_w]; rfl) :
    wpAnyLast P md ops Q S ds (fuel + 1) l a w := take_ (bz p q) hi hN hc hQ hy hS ha h
theorem tA5 (i n p q : Nat) {oi : Oper} {v : Value} {fuel : Nat} {l : Array Bool} {a : Act} {w : World} {a' : Act} (h : wpAnyLast P md ops Q S ds fuel (bz p q) a' w) (hS : S w := by exact hHeld) (hc : takeB md ops ds l (bz p q) i = true := by first | exact take_ofW HT_.out HW_.out (by kernel_rfl) | kernel_rfl)
    (hi : ops[i]? = some oi := by rfl) (hN : oi.dst = some n := by rfl) (hQ : ∀ c a w, Q (.panic c) (a.put oi.dst v) w → Q (.panic c) a w := by exact fun _ _ _ h => h)
    (hy : YieldsIf P ops S oi v a := by refine Or.inl ⟨by rfl, ?_⟩; rintro w' ⟨s0, s1, s2, s3, s4⟩; go_simp; with_reducible rfl) (ha : a.put (some n) v = a' := by simp only [Act.put, List.setIfInBounds_toArray, List.set_cons_zero, List.set_cons_succ, i64_w, i32_w]; rfl) :
    wpAnyLast P md ops Q S ds (fuel + 1) l a w := take_ (bz p q) hi hN hc hQ hy hS ha h
theorem tA7 (i n p q : Nat) {oi : Oper} {v : Value} {fuel : Nat} {l : Array Bool} {a : Act} {w : World} {a' : Act} (h : wpAnyLast P md ops Q S ds fuel (bz p q) a' w) (hS : S w := by exact hHeld) (hc : takeB md ops ds l (bz p q) i = true := by first | exact take_ofW HT_.out HW_.out (by kernel_rfl) | kernel_rfl)
    (hi : ops[i]? = some oi := by rfl) (hN : oi.dst = some n := by rfl) (hQ : ∀ c a w, Q (.panic c) (a.put oi.dst v) w → Q (.panic c) a w := by exact fun _ _ _ h => h)
    (hy : YieldsIf P ops S oi v a := by refine Or.inl ⟨by rfl, ?_⟩; rintro w' ⟨s0, s1, s2, s3, s4, s5, s6⟩; go_simp; with_reducible rfl) (ha : a.put (some n) v = a' := by simp only [Act.put, List.setIfInBounds_toArray, List.set_cons_zero, List.set_cons_succ, i64_w, i32_w]; rfl) :
    wpAnyLast P md ops Q S ds (fuel + 1) l a w := take_ (bz p q) hi hN hc hQ hy hS ha h
theorem tA8 (i n p q : Nat) {oi : Oper} {v : Value} {fuel : Nat} {l : Array Bool} {a : Act} {w : World} {a' : Act} (h : wpAnyLast P md ops Q S ds fuel (bz p q) a' w) (hS : S w := by exact hHeld) (hc : takeB md ops ds l (bz p q) i = true := by first | exact take_ofW HT_.out HW_.out (by kernel_rfl) | kernel_rfl)
    (hi : ops[i]? = some oi := by rfl) (hN : oi.dst = some n := by rfl) (hQ : ∀ c a w, Q (.panic c) (a.put oi.dst v) w → Q (.panic c) a w := by exact fun _ _ _ h => h)
    (hy : YieldsIf P ops S oi v a := by refine Or.inl ⟨by rfl, ?_⟩; rintro w' ⟨s0, s1, s2, s3, s4, s5, s6, s7⟩; go_simp; with_reducible rfl) (ha : a.put (some n) v = a' := by simp only [Act.put, List.setIfInBounds_toArray, List.set_cons_zero, List.set_cons_succ, i64_w, i32_w]; rfl) :
    wpAnyLast P md ops Q S ds (fuel + 1) l a w := take_ (bz p q) hi hN hc hQ hy hS ha h
theorem tA10 (i n p q : Nat) {oi : Oper} {v : Value} {fuel : Nat} {l : Array Bool} {a : Act} {w : World} {a' : Act} (h : wpAnyLast P md ops Q S ds fuel (bz p q) a' w) (hS : S w := by exact hHeld) (hc : takeB md ops ds l (bz p q) i = true := by first | exact take_ofW HT_.out HW_.out (by kernel_rfl) | kernel_rfl)
    (hi : ops[i]? = some oi := by rfl) (hN : oi.dst = some n := by rfl) (hQ : ∀ c a w, Q (.panic c) (a.put oi.dst v) w → Q (.panic c) a w := by exact fun _ _ _ h => h)
    (hy : YieldsIf P ops S oi v a := by refine Or.inl ⟨by rfl, ?_⟩; rintro w' ⟨s0, s1, s2, s3, s4, s5, s6, s7, s8, s9⟩; go_simp; with_reducible rfl) (ha : a.put (some n) v = a' := by simp only [Act.put, List.setIfInBounds_toArray, List.set_cons_zero, List.set_cons_succ, i64_w, i32_w]; rfl) :
    wpAnyLast P md ops Q S ds (fuel + 1) l a w := take_ (bz p q) hi hN hc hQ hy hS ha h
theorem tA12 (i n p q : Nat) {oi : Oper} {v : Value} {fuel : Nat} {l : Array Bool} {a : Act} {w : World} {a' : Act} (h : wpAnyLast P md ops Q S ds fuel (bz p q) a' w) (hS : S w := by exact hHeld) (hc : takeB md ops ds l (bz p q) i = true := by first | exact take_ofW HT_.out HW_.out (by kernel_rfl) | kernel_rfl)
    (hi : ops[i]? = some oi := by rfl) (hN : oi.dst = some n := by rfl) (hQ : ∀ c a w, Q (.panic c) (a.put oi.dst v) w → Q (.panic c) a w := by exact fun _ _ _ h => h)
    (hy : YieldsIf P ops S oi v a := by refine Or.inl ⟨by rfl, ?_⟩; rintro w' ⟨s0, s1, s2, s3, s4, s5, s6, s7, s8, s9, s10, s11⟩; go_simp; with_reducible rfl) (ha : a.put (some n) v = a' := by simp only [Act.put, List.setIfInBounds_toArray, List.set_cons_zero, List.set_cons_succ, i64_w, i32_w]; rfl) :
    wpAnyLast P md ops Q S ds (fuel + 1) l a w := take_ (bz p q) hi hN hc hQ hy hS ha h
theorem tA13 (i n p q : Nat) {oi : Oper} {v : Value} {fuel : Nat} {l : Array Bool} {a : Act} {w : World} {a' : Act} (h : wpAnyLast P md ops Q S ds fuel (bz p q) a' w) (hS : S w := by exact hHeld) (hc : takeB md ops ds l (bz p q) i = true := by first | exact take_ofW HT_.out HW_.out (by kernel_rfl) | kernel_rfl)
    (hi : ops[i]? = some oi := by rfl) (hN : oi.dst = some n := by rfl) (hQ : ∀ c a w, Q (.panic c) (a.put oi.dst v) w → Q (.panic c) a w := by exact fun _ _ _ h => h)
    (hy : YieldsIf P ops S oi v a := by refine Or.inl ⟨by rfl, ?_⟩; rintro w' ⟨s0, s1, s2, s3, s4, s5, s6, s7, s8, s9, s10, s11, s12⟩; go_simp; with_reducible rfl) (ha : a.put (some n) v = a' := by simp only [Act.put, List.setIfInBounds_toArray, List.set_cons_zero, List.set_cons_succ, i64_w, i32_w]; rfl) :
    wpAnyLast P md ops Q S ds (fuel + 1) l a w := take_ (bz p q) hi hN hc hQ hy hS ha h
theorem tA17 (i n p q : Nat) {oi : Oper} {v : Value} {fuel : Nat} {l : Array Bool} {a : Act} {w : World} {a' : Act} (h : wpAnyLast P md ops Q S ds fuel (bz p q) a' w) (hS : S w := by exact hHeld) (hc : takeB md ops ds l (bz p q) i = true := by first | exact take_ofW HT_.out HW_.out (by kernel_rfl) | kernel_rfl)
    (hi : ops[i]? = some oi := by rfl) (hN : oi.dst = some n := by rfl) (hQ : ∀ c a w, Q (.panic c) (a.put oi.dst v) w → Q (.panic c) a w := by exact fun _ _ _ h => h)
    (hy : YieldsIf P ops S oi v a := by refine Or.inl ⟨by rfl, ?_⟩; rintro w' ⟨s0, s1, s2, s3, s4, s5, s6, s7, s8, s9, s10, s11, s12, s13, s14, s15, s16⟩; go_simp; with_reducible rfl) (ha : a.put (some n) v = a' := by simp only [Act.put, List.setIfInBounds_toArray, List.set_cons_zero, List.set_cons_succ, i64_w, i32_w]; rfl) :
    wpAnyLast P md ops Q S ds (fuel + 1) l a w := take_ (bz p q) hi hN hc hQ hy hS ha h
theorem tA18 (i n p q : Nat) {oi : Oper} {v : Value} {fuel : Nat} {l : Array Bool} {a : Act} {w : World} {a' : Act} (h : wpAnyLast P md ops Q S ds fuel (bz p q) a' w) (hS : S w := by exact hHeld) (hc : takeB md ops ds l (bz p q) i = true := by first | exact take_ofW HT_.out HW_.out (by kernel_rfl) | kernel_rfl)
    (hi : ops[i]? = some oi := by rfl) (hN : oi.dst = some n := by rfl) (hQ : ∀ c a w, Q (.panic c) (a.put oi.dst v) w → Q (.panic c) a w := by exact fun _ _ _ h => h)
    (hy : YieldsIf P ops S oi v a := by refine Or.inl ⟨by rfl, ?_⟩; rintro w' ⟨s0, s1, s2, s3, s4, s5, s6, s7, s8, s9, s10, s11, s12, s13, s14, s15, s16, s17⟩; go_simp; with_reducible rfl) (ha : a.put (some n) v = a' := by simp only [Act.put, List.setIfInBounds_toArray, List.set_cons_zero, List.set_cons_succ, i64_w, i32_w]; rfl) :
    wpAnyLast P md ops Q S ds (fuel + 1) l a w := take_ (bz p q) hi hN hc hQ hy hS ha h
end
section
variable {w : World} {g : Nat} {t : TypeId} {a b c d e f i j k l m : Value} {R_ : Prop}
theorem bkc2_ (h : Aside0 (w.heap[g]? = some (.cells #[a, b] t (0, 0)))) : w.cell? ⟨g, 0, none⟩ = some a ∧ w.cell? ⟨g, 1, none⟩ = some b := ⟨blk_cell h.out 0, blk_cell h.out 1⟩
theorem bkc3_ (h : Aside0 (w.heap[g]? = some (.cells #[a, b, c] t (0, 0)))) : w.cell? ⟨g, 0, none⟩ = some a ∧ w.cell? ⟨g, 1, none⟩ = some b ∧ w.cell? ⟨g, 2, none⟩ = some c := ⟨blk_cell h.out 0, blk_cell h.out 1, blk_cell h.out 2⟩
theorem bkc5_ (h : Aside0 (w.heap[g]? = some (.cells #[a, b, c, d, e] t (0, 0)))) : w.cell? ⟨g, 0, none⟩ = some a ∧ w.cell? ⟨g, 1, none⟩ = some b ∧ w.cell? ⟨g, 2, none⟩ = some c ∧ w.cell? ⟨g, 3, none⟩ = some d ∧ w.cell? ⟨g, 4, none⟩ = some e := ⟨blk_cell h.out 0, blk_cell h.out 1, blk_cell h.out 2, blk_cell h.out 3, blk_cell h.out 4⟩
theorem bkd5_ (h : Aside0 (w.heap[g]? = some (.cells #[a, b, c, d, e] t (0, 0)))) (r_ : R_) : w.cell? ⟨g, 0, none⟩ = some a ∧ w.cell? ⟨g, 1, none⟩ = some b ∧ w.cell? ⟨g, 2, none⟩ = some c ∧ w.cell? ⟨g, 3, none⟩ = some d ∧ w.cell? ⟨g, 4, none⟩ = some e ∧ R_ := ⟨blk_cell h.out 0, blk_cell h.out 1, blk_cell h.out 2, blk_cell h.out 3, blk_cell h.out 4, r_⟩
theorem bkc6_ (h : Aside0 (w.heap[g]? = some (.cells #[a, b, c, d, e, f] t (0, 0)))) : w.cell? ⟨g, 0, none⟩ = some a ∧ w.cell? ⟨g, 1, none⟩ = some b ∧ w.cell? ⟨g, 2, none⟩ = some c ∧ w.cell? ⟨g, 3, none⟩ = some d ∧ w.cell? ⟨g, 4, none⟩ = some e ∧ w.cell? ⟨g, 5, none⟩ = some f := ⟨blk_cell h.out 0, blk_cell h.out 1, blk_cell h.out 2, blk_cell h.out 3, blk_cell h.out 4, blk_cell h.out 5⟩
theorem bkc10_ (h : Aside0 (w.heap[g]? = some (.cells #[a, b, c, d, e, f, i, j, k, l] t (0, 0)))) : w.cell? ⟨g, 0, none⟩ = some a ∧ w.cell? ⟨g, 1, none⟩ = some b ∧ w.cell? ⟨g, 2, none⟩ = some c ∧ w.cell? ⟨g, 3, none⟩ = some d ∧ w.cell? ⟨g, 4, none⟩ = some e ∧ w.cell? ⟨g, 5, none⟩ = some f ∧ w.cell? ⟨g, 6, none⟩ = some i ∧ w.cell? ⟨g, 7, none⟩ = some j ∧ w.cell? ⟨g, 8, none⟩ = some k ∧ w.cell? ⟨g, 9, none⟩ = some l := ⟨blk_cell h.out 0, blk_cell h.out 1, blk_cell h.out 2, blk_cell h.out 3, blk_cell h.out 4, blk_cell h.out 5, blk_cell h.out 6, blk_cell h.out 7, blk_cell h.out 8, blk_cell h.out 9⟩
theorem bkd10_ (h : Aside0 (w.heap[g]? = some (.cells #[a, b, c, d, e, f, i, j, k, l] t (0, 0)))) (r_ : R_) : w.cell? ⟨g, 0, none⟩ = some a ∧ w.cell? ⟨g, 1, none⟩ = some b ∧ w.cell? ⟨g, 2, none⟩ = some c ∧ w.cell? ⟨g, 3, none⟩ = some d ∧ w.cell? ⟨g, 4, none⟩ = some e ∧ w.cell? ⟨g, 5, none⟩ = some f ∧ w.cell? ⟨g, 6, none⟩ = some i ∧ w.cell? ⟨g, 7, none⟩ = some j ∧ w.cell? ⟨g, 8, none⟩ = some k ∧ w.cell? ⟨g, 9, none⟩ = some l ∧ R_ := ⟨blk_cell h.out 0, blk_cell h.out 1, blk_cell h.out 2, blk_cell h.out 3, blk_cell h.out 4, blk_cell h.out 5, blk_cell h.out 6, blk_cell h.out 7, blk_cell h.out 8, blk_cell h.out 9, r_⟩
end
theorem dE {P : Prop} (h : P := by repeat (first | exact Drawn0.refl _ | apply Drawn0.step)) : P := h
theorem far_ {W : World} {g d i j : Nat} {x : Option Value} {u : Value} (e : W.cell? ⟨g, i, none⟩ = x) (h : Aside0 (g ≠ d)) : (W.setCell ⟨d, j, none⟩ u).cell? ⟨g, i, none⟩ = x := (cell_far (p := ⟨d, j, none⟩) h.out u).trans e
theorem fE {P : Prop} (h : P := by (repeat' with_reducible apply And.intro); all_goals (repeat (first | (simp only [hHeld]; done) | refine far_ ?_ (by assumption)))) : P := h
theorem cE {P : Prop} (h : P := by repeat (first | exact Kd.C_below (Aside0.out (by with_reducible assumption)) HB.out | (with_reducible refine Kd.C_alloc ?_ _) | (with_reducible refine Kd.C_drewN ?_ _) | (with_reducible refine Kd.C_drew ?_))) : P := h
theorem si_ {α : Type} {a b : α} (h : some a = some b) : a = b := Option.some.inj h
theorem moE {P : Prop} (h : P := by repeat' first
   | (with_reducible exact LeO.refl _)
   | (with_reducible exact LeO.none _)
   | (with_reducible refine LeO.ite ?_ ?_)
   | (with_reducible refine LeO.bind ?_ (fun _ => ?_))
   | (with_reducible apply_assumption)
   | exact LeO.none _
   | refine LeO.ite ?_ ?_
   | refine LeO.bind ?_ (fun _ => ?_)
   | apply_assumption) : P := h
end Go.Proofs.YtfmajangcbgooaaGreatDoor.Pr
