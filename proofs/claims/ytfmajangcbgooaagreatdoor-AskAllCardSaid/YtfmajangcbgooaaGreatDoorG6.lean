
/- 'copy(out[k+1:], out[k:])' on a row of texts of the call's own: all behind place k one place further, the last one out. -/
import Derived.Test.YtfmajangcbgooaaGreatDoorG2
import Derived.Laws.CopyRow
import Derived.Laws.IdiomCopy
namespace Go.Proofs.YtfmajangcbgooaaGreatDoor.Pr
open Go.RowKit Go.Proofs.YtfmajangcbgooaaGreatDoorW.PrintWords Go.Proofs.YtfmajangcbgooaaGreatDoorW.PrintLast Go.Proofs.YtfmajangcbgooaaGreatDoorW.PrintMore
set_option linter.unusedVariables false
set_option linter.unusedSimpArgs false

def shiftL (xs : List ByteArray) (k : Nat) : List ByteArray := xs.take (k + 1) ++ (xs.drop k).take (xs.length - (k + 1))
theorem shiftL_length (xs : List ByteArray) (k : Nat) (h : k < xs.length) : (shiftL xs k).length = xs.length := by
  unfold shiftL
  rw [List.length_append, List.length_take, List.length_take, List.length_drop]
  omega
section
variable {P : Program}
theorem shift_run {W : World} (base : Nat) (t ty e : TypeId) (ht : P.underlying t = some (.slice e)) (hi : (P.info? e).map (·.size) = some 1)
    {g n c k : Nat} {xs : List ByteArray} {ok : Nat → Prop} (HO : Kd.string.R e W base ok (.slice (some ⟨g, 0, none⟩) n c) xs) (hk : k < n) {A1 A2 : Option Addr}
    (hA1 : A1 = if c = k + 1 then some ⟨g, 0, none⟩ else (some (⟨g, 0, none⟩ : Addr)).map (·.add ((k + 1) * Kd.string.sz)))
    (hA2 : A2 = if c = k then some ⟨g, 0, none⟩ else (some (⟨g, 0, none⟩ : Addr)).map (·.add (k * Kd.string.sz))) (c1 c2 : Nat) :
    ∃ w1, (Builtin.copy_ #[t, t] ty #[.slice A1 (n - (k + 1)) c1, .slice A2 (n - k) c2]).run P W = .ok (goInt ((n - (k + 1) : Nat) : Int)) w1 ∧ Kd.string.R e w1 base ok (.slice (some ⟨g, 0, none⟩) n c) (shiftL xs k) ∧ W.grownBy w1 (some g) := by
  have hown := Kd.own_of_R HO
  have hP := HO.1
  have hl := (Kd.R_reads' HO).1.symm
  rcases hown.2 with ⟨hv, _⟩ | ⟨g', cap', cur, hv, hb, hh, h1, h2, h3, h4⟩
  · cases hv
  injection hv with ha hn hc
  injection ha with ha
  injection ha with hg
  subst hg; subst hc
  rw [Nat.mul_one] at h3 h4
  have hsz : Kd.string.sz = 1 := rfl
  rw [hsz, Nat.mul_one] at hA1 hA2
  obtain ⟨news, hnews⟩ : ∃ news, news = encs Value.string ((xs.drop k).take (n - (k + 1))) := ⟨_, rfl⟩
  have hnl : news.length = n - (k + 1) := by rw [hnews]; simp [encs]; omega
  have hcur : ∀ j, j < n → cur.toList[j]? = (encs Value.string xs)[j]? := by
    intro j hj
    rw [← h4, List.getElem?_take, if_pos (by omega)]
  have hsrc : ∃ a, A2 = some a ∧ ∀ j u, news[j]? = some u → W.cell? (a.add j) = some u := by
    have hck : ¬ c = k := by omega
    rw [if_neg hck, Option.map_some] at hA2
    refine ⟨_, hA2, fun j u hu => ?_⟩
    have hj : j < news.length := (List.getElem?_eq_some_iff.1 hu).1
    rw [add_add, add_at, cell_of_row W g _ cur e (0, 0) hh, ← Array.getElem?_toList]
    rw [hnews] at hu
    have e1 : (encs Value.string ((xs.drop k).take (n - (k + 1))))[j]? = (encs Value.string xs)[k + j]? := by
      simp only [encs, List.getElem?_map, List.getElem?_take, List.getElem?_drop]
      rw [if_pos (by omega)]
    rw [e1] at hu
    rw [← hu, Nat.zero_add]
    exact hcur _ (by omega)
  obtain ⟨a2, rfl, hcell⟩ := hsrc
  have hone : ∀ u ∈ news, u.oneCell' = true := by
    intro u hu
    rw [hnews] at hu
    obtain ⟨x, _, rfl⟩ := List.mem_map.1 hu
    rfl
  obtain ⟨o, hA1', ho⟩ : ∃ o, A1 = some ⟨g, o, none⟩ ∧ (0 < news.length → o = k + 1) := by
    by_cases hck : c = k + 1
    · rw [if_pos hck] at hA1
      exact ⟨0, hA1, fun h => by omega⟩
    · rw [if_neg hck, Option.map_some] at hA1
      exact ⟨k + 1, by rw [hA1, add_at, Nat.zero_add], fun _ => rfl⟩
  subst hA1'
  have hlen : (encs Value.string xs).length = n := by rw [encs, List.length_map, hl]
  have hgo : ∀ m, some g = (Value.slice (some ⟨g, 0, none⟩) m c).ownBlock := fun m => by simp [Value.ownBlock]
  have hrun := run_copy_cells (P := P) W t t ty e g o (n - (k + 1)) c1 a2 (n - k) c2 news ht hi (by rw [hnl]; show _ = min (n - k) (n - (k + 1)); omega) hcell
    (fun j hj => by have := ho (by omega); rw [cell_of_row W g _ cur e (0, 0) hh]; simp; omega) (fun j _ => blk_frozen hh _) hone
  rw [hnl] at hrun
  have hs := shiftL_length xs k (by omega)
  by_cases h0 : news.length = 0
  · have hnil : news = [] := List.eq_nil_of_length_eq_zero h0
    rw [hnil] at hrun
    refine ⟨W, hrun, ?_, ?_⟩
    · have : shiftL xs k = xs := by
        unfold shiftL
        rw [hl, show n - (k + 1) = 0 by omega, List.take_zero, List.append_nil, List.take_of_length_le (by omega)]
      rw [this]
      exact HO
    · exact ⟨rfl, rfl, rfl, Nat.le_refl _, fun _ _ _ => rfl⟩
  · have hok := ho (by omega)
    subst hok
    have hfit : k + 1 + news.length ≤ cur.size := by omega
    obtain ⟨cur', h5, h6, h7⟩ := setCells_row news (k + 1) W cur hh hfit
    obtain ⟨s1, s2, s3, s4⟩ := setCells_same g news (k + 1) W
    refine ⟨_, hrun, Kd.R_of_own (h1 := fun _ => rfl) (xs := shiftL xs k) ⟨?_, .inr ⟨g, c, cur', by rw [hs, hl], hb, h5, by rw [hs]; omega, h2, by rw [h6, Nat.mul_one, h3], ?_⟩⟩ (fun k' hk' => hP k' hk'), ⟨s1, s2, s3, by rw [s4]; exact Nat.le_refl _, fun k' _ hk' => setCells_far news _ k' (fun he => hk' (by rw [he]))⟩⟩
    · rw [encs, List.length_map, Nat.mul_one]
    · rw [hs, hl, Nat.mul_one, h7, hnews]
      have h8 : cur.toList.take (k + 1) = (encs Value.string xs).take (k + 1) := by
        rw [← h4, List.take_take, Nat.min_eq_left (by omega)]
      rw [h8]
      unfold shiftL
      rw [encs, encs, encs, List.map_append, List.map_take, hl]
      rw [List.map_take, List.map_take]
      exact List.take_left' (by rw [List.length_append, List.length_take, List.length_take, List.length_map, List.length_map, List.length_drop]; omega)
variable {ops : Array Oper} {rest : List Oper} {o : Oper} {a : Act} {Q : Exit → Act → World → Prop} {Kc : Act → World → Prop}
theorem R_shift {w0 W : World} (base : Nat) (hgd : o.guard = none) (s x : Operand) (t e : TypeId) (ho : o.op = .call { callee := .builtin .copy, args := #[s, x], argTypes := #[t, t] })
    (ht : P.underlying t = some (.slice e)) (hinfo : (P.info? e).map (·.size) = some 1) {g n c k m1 m2 c1 c2 : Nat} {A1 A2 : Option Addr} {xs : List ByteArray} {ok : Nat → Prop}
    (hs : a.eval s = .slice A1 m1 c1) (hx : a.eval x = .slice A2 m2 c2)
    (hA1 : A1 = if c = k + 1 then some ⟨g, 0, none⟩ else (some (⟨g, 0, none⟩ : Addr)).map (·.add ((k + 1) * Kd.string.sz))) (hA2 : A2 = if c = k then some ⟨g, 0, none⟩ else (some (⟨g, 0, none⟩ : Addr)).map (·.add (k * Kd.string.sz)))
    (hm1 : m1 = n - (k + 1)) (hm2 : m2 = n - k)
    (HO : Kd.string.R e W base ok (.slice (some ⟨g, 0, none⟩) n c) xs) (hk : k < n) (HB : Below base w0 W) (hbase : base ≤ W.heap.size)
    (h : ∀ w1, Kd.string.R e w1 base ok (.slice (some ⟨g, 0, none⟩) n c) (shiftL xs k) → Below base w0 w1 → W.grownBy w1 (some g) → wpList P ops Q rest (a.put o.dst (goInt ((n - (k + 1) : Nat) : Int))) w1) : wpList P ops Q (o :: rest) a W := by
  subst hm1; subst hm2
  obtain ⟨w1, hr, h1, h2⟩ := shift_run (P := P) base t o.type e ht hinfo HO hk hA1 hA2 c1 c2
  refine wpList_plain hgd fun K hK => ?_
  unfold Oper.wp execOp
  simp only [ho, resolve, invoke, builtin, Sem.run_bind, Sem.run_pure, Result.andThen_ok, List.map_toArray, List.map_cons, List.map_nil, hs, hx, hr]
  exact hK _ _ (h w1 h1 (HB.grown h2 hbase (fun k hk => by injection hk with hk; subst hk; exact Kd.R_base HO _ (by simp [Value.ownBlock]))) h2)
theorem R_shift_step {w0 W : World} (base : Nat) (hw : Region.wanted o (yielded ops a.tmps) = true) (s x : Operand) (t e : TypeId) (ho : o.op = .call { callee := .builtin .copy, args := #[s, x], argTypes := #[t, t] })
    (ht : P.underlying t = some (.slice e)) (hinfo : (P.info? e).map (·.size) = some 1) {g n c k m1 m2 c1 c2 : Nat} {A1 A2 : Option Addr} {xs : List ByteArray} {ok : Nat → Prop}
    (hs : a.eval s = .slice A1 m1 c1) (hx : a.eval x = .slice A2 m2 c2)
    (hA1 : A1 = if c = k + 1 then some ⟨g, 0, none⟩ else (some (⟨g, 0, none⟩ : Addr)).map (·.add ((k + 1) * Kd.string.sz))) (hA2 : A2 = if c = k then some ⟨g, 0, none⟩ else (some (⟨g, 0, none⟩ : Addr)).map (·.add (k * Kd.string.sz)))
    (hm1 : m1 = n - (k + 1)) (hm2 : m2 = n - k)
    (HO : Kd.string.R e W base ok (.slice (some ⟨g, 0, none⟩) n c) xs) (hk : k < n) (HB : Below base w0 W) (hbase : base ≤ W.heap.size)
    (h : ∀ w1, Kd.string.R e w1 base ok (.slice (some ⟨g, 0, none⟩) n c) (shiftL xs k) → Below base w0 w1 → W.grownBy w1 (some g) → Kc (a.put o.dst (goInt ((n - (k + 1) : Nat) : Int))) w1) :
    if Region.wanted o (yielded ops a.tmps) = true then Oper.wp P o a W Kc Q else Kc (a.put o.dst undef) W := by
  subst hm1; subst hm2
  obtain ⟨w1, hr, h1, h2⟩ := shift_run (P := P) base t o.type e ht hinfo HO hk hA1 hA2 c1 c2
  rw [if_pos hw]
  unfold Oper.wp execOp
  simp only [ho, resolve, invoke, builtin, Sem.run_bind, Sem.run_pure, Result.andThen_ok, List.map_toArray, List.map_cons, List.map_nil, hs, hx, hr]
  exact h w1 h1 (HB.grown h2 hbase (fun k hk => by injection hk with hk; subst hk; exact Kd.R_base HO _ (by simp [Value.ownBlock]))) h2
end
end Go.Proofs.YtfmajangcbgooaaGreatDoor.Pr
