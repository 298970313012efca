
/- An array of texts, read at a place. -/
import Derived.Test.YtfmajangcbgooaaGreatDoorPr0
import Derived.ChangeKeysEq
namespace Go.Proofs.YtfmajangcbgooaaGreatDoor.Pr
open Go.RowKit Go.Proofs.YtfmajangcbgooaaGreatDoorW.PrintWords Go.Proofs.YtfmajangcbgooaaGreatDoorW.PrintLast
theorem XA.arr_at {P : Program} {t e : TypeId} (n : Nat) (l : List ByteArray) (ht : P.underlying t = some (.array n e)) (he : P.underlying e = some .string) (hs : P.cellsOf e = 1) (hl : l.length = n) (vs : Array Value) (hv : vs = (l.map Value.string).toArray) (j : Int) (h0 : 0 ≤ j) (h1 : j < (n : Int)) :
    ∀ w : World, (Instr.index t (.agg vs) (.int .i64 j)).run P w = .ok (.string (rdOf ByteArray.empty l j)) w := by
  intro w
  subst hv
  have hj : j.toNat < l.length := by omega
  have hz : ∃ i, P.info? e = some i := by
    unfold Program.underlying at he
    cases hi : P.info? e with
    | none => simp [hi] at he
    | some i => exact ⟨i, rfl⟩
  obtain ⟨i, hi⟩ := hz
  simp [Instr.index, run_underlying ht, asIntOf, h0, h1, run_sizeOf w hi, hs, part, isAgg, run_underlying he, go_sem, rdOf, List.getD_eq_getElem?_getD, hj]
theorem XA.arrI_at {P : Program} {t e : TypeId} (n : Nat) (l : List Int) (ht : P.underlying t = some (.array n e)) (he : P.underlying e = some (.int .i64)) (hs : P.cellsOf e = 1) (hl : l.length = n) (vs : Array Value) (hv : vs = (l.map (Value.int .i64)).toArray) (j : Int) (h0 : 0 ≤ j) (h1 : j < (n : Int)) :
    ∀ w : World, (Instr.index t (.agg vs) (.int .i64 j)).run P w = .ok (.int .i64 (rd l j)) w := by
  intro w
  subst hv
  have hj : j.toNat < l.length := by omega
  have hz : ∃ i, P.info? e = some i := by
    unfold Program.underlying at he
    cases hi : P.info? e with
    | none => simp [hi] at he
    | some i => exact ⟨i, rfl⟩
  obtain ⟨i, hi⟩ := hz
  simp [Instr.index, run_underlying ht, asIntOf, h0, h1, run_sizeOf w hi, hs, part, isAgg, run_underlying he, go_sem, rd, List.getD_eq_getElem?_getD, hj]
theorem own_len (A : Option Addr) (n m c : Nat) : (Value.slice A n c).ownBlock = (Value.slice A m c).ownBlock := by cases A <;> rfl
section
variable {P : Program} {ops : Array Oper} {rest : List Oper} {o : Oper} {a : Act} {W : World} {Q : Exit → Act → World → Prop}
theorem gate_calleeT {t : Tmp} {ps : Array Operand} {ts : Array TypeId} (_ho : o.op = .call { callee := .value (.tmp t), args := ps, argTypes := ts }) (h : wpList P ops Q (o :: rest) a W) : wpList P ops Q (o :: rest) a W := h
theorem goesLT_ (T : Tmp) {oi : Oper} {w : World} (N : Option Tmp) (hd : oi.dst = N) (hg : oi.guard = none) {f : FuncId} {fn : Func} {ps : Array Operand} {ts : Array TypeId} (hf : P.funcs[f]? = some fn) (hname : (fn.name == "runtime.NumGoroutine") = false) (hb : fn.body.isSome = true) (args : Array Value)
    (hop : oi.op = .call { callee := .value (.tmp T), args := ps, argTypes := ts }) (hv : a.eval (.tmp T) = .func (.func f) #[] #[]) (hargs : ps.map a.eval = args)
    (h : Calls P f args w fun e w' => ∃ v, e = .returned v ∧ wpList P ops Q rest (a.put N v) w') : wpList P ops Q (oi :: rest) a w := by
  refine wpList_plain hg fun K hK => ?_
  have he := enters_ hf hname hb args w
  have hrun : (execOp a.eval oi).run P w = .ok (.enter f args) w := by
    unfold execOp
    simp [hop, resolve, Deferred.ofValue, invoke, hv, hargs, he]
  unfold Oper.wp
  rw [hrun, Oper.upon_enter]
  refine h.mono fun e w'' hh => ?_
  obtain ⟨v, rfl, hk⟩ := hh
  subst hd
  exact hK _ _ hk
end
end Go.Proofs.YtfmajangcbgooaaGreatDoor.Pr
