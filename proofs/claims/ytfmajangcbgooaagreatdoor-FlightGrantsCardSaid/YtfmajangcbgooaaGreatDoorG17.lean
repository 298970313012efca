
/- flight.Grants' closure over its row of entries: walked by hand. -/
import Derived.Test.YtfmajangcbgooaaGreatDoorG14
import Derived.Test.YtfmajangcbgooaaGreatDoorPr18
namespace Go.Proofs.YtfmajangcbgooaaGreatDoor.Pr
open Go.RowKit Go.Proofs.YtfmajangcbgooaaGreatDoorW.PrintWords Go.Proofs.YtfmajangcbgooaaGreatDoorW.PrintLast Go.Proofs.YtfmajangcbgooaaGreatDoorW.PrintMore
set_option linter.unusedVariables false
set_option linter.unusedSimpArgs false
set_option maxHeartbeats 16000000
set_option maxRecDepth 100000
/-- A row of entries behind a variable of its own. -/
def IsO (W : World) (base go : Nat) (xs : List S64) : Prop := ∃ v, W.heap[go]? = some (.cells #[v] 59 (0, 0)) ∧ base ≤ go ∧ Kd.R k64 64 W base (fun k => k ≠ go) v xs
theorem IsO.below {w w' : World} {base go : Nat} {xs : List S64} (h : IsO w base go xs) (hb : Below w.heap.size w w') : IsO w' base go xs := by
  obtain ⟨v, hk, hg, hr⟩ := h
  exact ⟨v, blk_below hk hb, hg, Kd.R_below hr hb⟩
def eqE (e x : S64) : Bool := (e.f0.f0.toList == x.f0.f0.toList && (e.f0.f1.toList == x.f0.f1.toList && (e.f0.f2 == x.f0.f2))) && (e.f1.toList == x.f1.toList && (e.f2.toList == x.f2.toList && (e.f3 == x.f3)))
theorem contE_l0 (l : List S64) (hl : l.length ≤ 9223372036854775806) (e : S64) : ∀ n i, i + n = l.length → api_Entry_132.l0 (n + 1) l (l.length : Int) (i : Int) e.f0.f0 e.f0.f1 e.f0.f2 e.f1 e.f2 e.f3 = some (if (l.drop i).any (eqE e) = true then ((i + (l.drop i).findIdx (eqE e) : Nat) : Int) else -1) := by
  intro n
  induction n with
  | zero =>
    intro i hi
    rw [List.drop_of_length_le (by omega)]
    simp only [api_Entry_132.l0]
    rw [if_neg (by omega)]
    rfl
  | succ n ih =>
    intro i hi
    have h1 : i < l.length := by omega
    have e2 : wrap64 ((i : Int) + 1) = ((i + 1 : Nat) : Int) := by unfold wrap64; omega
    have hy : rd_T64 l (i : Int) = l[i] := by simp [rd_T64, List.getD_eq_getElem?_getD, List.getElem?_eq_getElem h1]
    rw [List.drop_eq_getElem_cons h1, List.any_cons, List.findIdx_cons, api_Entry_132.l0, if_pos (by omega), if_pos (by omega), if_pos (by omega), hy, e2, ih (i + 1) (by omega)]
    show (if eqE e l[i] = true then _ else _) = _
    cases eqE e l[i] with
    | true => simp
    | false =>
      simp only [Bool.false_or, Bool.false_eq_true, if_false, cond_false]
      split
      · congr 2
        omega
      · rfl
theorem contE_f (l : List S64) (hl : l.length ≤ 9223372036854775806) (e : S64) : api_Entry_81.f (l.length + 1) l e.f0.f0 e.f0.f1 e.f0.f2 e.f1 e.f2 e.f3 = some (l.any (eqE e)) := by
  unfold api_Entry_81.f api_Entry_132.f
  have := contE_l0 l hl e l.length 0 (by omega)
  rw [List.drop_zero] at this
  rw [show ((0 : Nat) : Int) = 0 from rfl] at this
  rw [this]
  cases h : l.any (eqE e) with
  | true => simp only [if_true, Option.bind_some]; exact congrArg some (decide_eq_true (by omega))
  | false => rfl
def addE (xs : List S64) (e : S64) : List S64 := if xs.any (eqE e) = true then xs else xs ++ [e]
/-- Blocks of other types stay. -/
def Tf (w w' : World) : Prop := ∀ (g : Nat) (cells : Array Value) (t : TypeId), t ≠ 59 → t ≠ 64 → w.heap[g]? = some (.cells cells t (0, 0)) → w'.heap[g]? = some (.cells cells t (0, 0))
theorem Tf.refl (w : World) : Tf w w := fun _ _ _ _ _ h => h
theorem Tf.trans {a b c : World} (h : Tf a b) (k : Tf b c) : Tf a c := fun g cells t h1 h2 h3 => k g cells t h1 h2 (h g cells t h1 h2 h3)
theorem Tf.below {a b : World} (h : Below a.heap.size a b) : Tf a b := fun _ _ _ _ _ h3 => blk_below h3 h
theorem Tf.put {w w2 w3 : World} {go : Nat} {v u : Value} {base : Nat} {xs : List S64} {ok : Nat → Prop} {cs : Array Value} (h : Below w.heap.size w w2) (hr : Kd.R k64 64 w2 base ok v xs) (hk : w2.heap[go]? = some (.cells cs 59 (0, 0))) (hg : w2.grownBy w3 v.ownBlock) : Tf w (w3.setCell ⟨go, 0, none⟩ u) := by
  intro g cells t h1 h2 h3
  have h4 := blk_below h3 h
  have h5 : g ≠ go := blk_ne h4 hk h1
  exact blk_far (p := ⟨go, 0, none⟩) (blk_grown h4 hg (Kd.R_ne hr h4 (Ne.symm h2))) h5 u
theorem grants1_calls (go : Nat) (xs : List S64) (e : S64) (w0 w : World) (hB : Below w0.heap.size w0 w) (ho : IsO w w0.heap.size go xs) (hl : xs.length ≤ 1000000) :
    Calls Tryz.prog 80 #[.agg (celE e), .pointer (some ⟨go, 0, none⟩)] w fun e' w' => e' = .returned (.tuple #[]) ∧ IsO w' w0.heap.size go (addE xs e) ∧ Below w0.heap.size w0 w' ∧ Tf w w' := by
  have hu64 := Tryz.underlying64
  have hu43 := Tryz.underlying43
  have hu59 := Tryz.underlying59
  obtain ⟨v, hk, hgo, hr⟩ := ho
  obtain ⟨A0, c0, rfl⟩ := Kd.R_slice hr
  have hcl := (Kd.R_reads' hr).2.1
  have HK := Aside0.mk hk
  have HR := Aside0.mk hr
  have HW := Aside0.mk hB
  have HC := Aside0.mk (contE_f xs (by omega) e)
  have HB := Aside0.mk (Below.refl w.heap.size w)
  have hgw : go < w.heap.size := blk_lt hk
  have z0 := blk_cell hk 0
  have z1 := blk_frozen hk 0
  clear hk hr hB
  have hce : celE e = #[.string e.f0.f0, .string e.f0.f1, .bool e.f0.f2, .string e.f1, .string e.f2, .int .u64 e.f3] := rfl
  rw [hce]
  clear hce
  unfold addE
  cases hany : xs.any (eqE e)
  case false =>
    rw [hany] at HC
    go_enter Tryz.func80, Tryz.ntmps80
    go_wp2_with (first | ((with_reducible refine gate_dst (N := 2) rfl ?_); refine bxE (N := 2) (cs := #[.string e.f0.f0, .string e.f0.f1, .bool e.f0.f2, .string e.f1, .string e.f2, .int .u64 e.f3]) (t := 64) fun gb hg w1 hbox hb => ?_; obtain ⟨HB', BK, GW⟩ := bx_ bE hg hbox hb; clear HB hb hbox hg; have HB := HB'; clear HB'; obtain ⟨za, zb, zc, zd, ze, zf, zg, zh, zi, zj, zk, zl⟩ := bk6_ BK; have y0 := blk_cell (blk_below HK.out HB.out) 0; have y1 := blk_frozen (blk_below HK.out HB.out) 0) | (go_at_call 81; (with_reducible refine (api_Entry_81.calls _ _ _ _ _ _ _ _ _ _ _ _ (Kd.R_reads' (Kd.R_below HR.out HB.out)).2.2 (by omega) HC.out).mono ?_); rintro e' w2 ⟨rfl, hb⟩; replace BK := kM BK hb; replace HB := bS bE hb; clear hb; obtain ⟨xa, xb, xc, xd, xe, xf, xg, xh, xi, xj, xk, xl⟩ := bk6_ BK; have x0 := blk_cell (blk_below HK.out HB.out) 0; have x1 := blk_frozen (blk_below HK.out HB.out) 0) | ((with_reducible refine gate_builtin (b := .append) (xs := #[.tmp 7, .tmp 9]) rfl ?_); at_builtin; refine Kd.R_append k64 (w0 := w0) w0.heap.size rfl (.tmp 7) (.tmp 9) 59 64 (.agg #[.string ⟨#[]⟩, .string ⟨#[]⟩, .bool false, .string ⟨#[]⟩, .string ⟨#[]⟩, .int .u64 0]) 80 rfl Tryz.underlying59 info64 rfl (by decide) (by omega) (.slice A0 xs.length c0) xs e [.string e.f0.f0, .string e.f0.f1, .bool e.f0.f2, .string e.f1, .string e.f2, .int .u64 e.f3] (fun k => k ≠ go) (fun _ => False) rfl (by first | (go_simp; done) | (go_simp; rfl)) ?aP (fun _ hk => hk.elim) ?aF ?aO ?aB ?aS ?aL ?_; (case aP => exact k64_mkM _ _ _ e); (case aF => exact fun k hk => Kd.freshB (blk_below HK.out HB.out) k hk); (case aO => exact Kd.R_below HR.out HB.out); (case aB => exact below_step HW.out HB.out); (case aS => exact (below_step HW.out HB.out).size); (case aL => omega); intro v1 w3 ho hb hg hat; obtain ⟨A1, d1, rfl⟩ := Kd.R_slice ho; have E1 := Aside0.mk (blk_grown (blk_below HK.out HB.out) hg (Kd.R_away (Kd.R_below HR.out HB.out) (fun _ hk => hk))); have E3 := Aside0.mk ho; have E4 := Aside0.mk hb; have E5 := Aside0.mk hg; clear ho hb hg hat; have p0 := blk_cell E1.out 0; have p1 := blk_frozen E1.out 0))
    go_end0
    exact ⟨rfl, ⟨_, blk_put E1.out 0 _ rfl, hgo, by have q := Kd.R_far (p := ⟨go, 0, none⟩) E3.out (fun _ h => h) (.slice A1 (xs.length + 1) d1); rwa [show (xs ++ [e]).length = xs.length + 1 by simp] at q⟩, below_set E4.out hgo, Tf.put HB.out (Kd.R_below HR.out HB.out) (blk_below HK.out HB.out) E5.out⟩
  case true =>
    rw [hany] at HC
    go_enter Tryz.func80, Tryz.ntmps80
    go_wp2_with (first | ((with_reducible refine gate_dst (N := 2) rfl ?_); refine bxE (N := 2) (cs := #[.string e.f0.f0, .string e.f0.f1, .bool e.f0.f2, .string e.f1, .string e.f2, .int .u64 e.f3]) (t := 64) fun gb hg w1 hbox hb => ?_; obtain ⟨HB', BK, GW⟩ := bx_ bE hg hbox hb; clear HB hb hbox hg; have HB := HB'; clear HB'; obtain ⟨za, zb, zc, zd, ze, zf, zg, zh, zi, zj, zk, zl⟩ := bk6_ BK; have y0 := blk_cell (blk_below HK.out HB.out) 0; have y1 := blk_frozen (blk_below HK.out HB.out) 0) | (go_at_call 81; (with_reducible refine (api_Entry_81.calls _ _ _ _ _ _ _ _ _ _ _ _ (Kd.R_reads' (Kd.R_below HR.out HB.out)).2.2 (by omega) HC.out).mono ?_); rintro e' w2 ⟨rfl, hb⟩; replace BK := kM BK hb; replace HB := bS bE hb; clear hb; obtain ⟨xa, xb, xc, xd, xe, xf, xg, xh, xi, xj, xk, xl⟩ := bk6_ BK; have x0 := blk_cell (blk_below HK.out HB.out) 0; have x1 := blk_frozen (blk_below HK.out HB.out) 0))
    go_end0
    exact ⟨rfl, ⟨_, blk_below HK.out HB.out, hgo, Kd.R_below HR.out HB.out⟩, below_step HW.out HB.out, Tf.below HB.out⟩
end Go.Proofs.YtfmajangcbgooaaGreatDoor.Pr
