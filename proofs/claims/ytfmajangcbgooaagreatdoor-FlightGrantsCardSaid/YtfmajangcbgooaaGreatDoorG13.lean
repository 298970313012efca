
/- cache.Cache's closures, and the searches over them: walked by hand. -/
import Derived.Test.YtfmajangcbgooaaGreatDoorPr18
import Derived.Test.YtfmajangcbgooaaGreatDoorK0
import Derived.Test.YtfmajangcbgooaaGreatDoorG2
import Derived.BigCall
import Derived.BigGuard
namespace Go.Proofs.YtfmajangcbgooaaGreatDoor.Pr
open Go.RowKit Go.Proofs.YtfmajangcbgooaaGreatDoorW.PrintWords Go.Proofs.YtfmajangcbgooaaGreatDoorW.PrintLast Go.Proofs.YtfmajangcbgooaaGreatDoorW.PrintMore
set_option linter.unusedVariables false
set_option linter.unusedSimpArgs false
set_option maxHeartbeats 8000000
set_option maxRecDepth 100000
def celE (x : S64) : Array Value := #[.string x.f0.f0, .string x.f0.f1, .bool x.f0.f2, .string x.f1, .string x.f2, .int .u64 x.f3]
def sameE (x e : S64) : Bool := if (x.f0.f0.toList == e.f0.f0.toList && (x.f0.f1.toList == e.f0.f1.toList && (x.f0.f2 == e.f0.f2))) = true then (if x.f1.toList = e.f1.toList then x.f2.toList == e.f2.toList else false) else false
theorem sameE_f (x e : S64) : cache_same.f x.f0.f0 x.f0.f1 x.f0.f2 x.f1 x.f2 x.f3 e.f0.f0 e.f0.f1 e.f0.f2 e.f1 e.f2 e.f3 = some (sameE x e) := by
  unfold cache_same.f sameE
  repeat' split
  all_goals rfl
theorem put1_calls (x e : S64) (g : Nat) (w : World) (hx : w.heap[g]? = some (.cells (celE e) 64 (0, 0))) :
    Calls Tryz.prog 84 #[.agg (celE x), .pointer (some ⟨g, 0, none⟩)] w fun e' w' => e' = .returned (.bool (sameE x e)) ∧ Below w.heap.size w w' := by
  have hu64 := Tryz.underlying64
  have hu43 := Tryz.underlying43
  have HB := Aside0.mk (Below.refl w.heap.size w)
  have A1 := Aside0.mk (sameE_f x e)
  generalize sameE x e = r at A1
  obtain ⟨⟨x0, x1, x2⟩, x3, x4, x5⟩ := x
  obtain ⟨⟨e0, e1, e2⟩, e3, e4, e5⟩ := e
  unfold celE at hx ⊢
  dsimp only at hx A1 ⊢
  have BKe := Aside0.mk hx
  clear hx
  go_enter Tryz.func84, Tryz.ntmps84
  go_wp2_with (first | ((with_reducible refine gate_dst (N := 2) rfl ?_); refine bxE (N := 2) (cs := #[.string x0, .string x1, .bool x2, .string x3, .string x4, .int .u64 x5]) (t := 64) fun gb hg w1 hbox hb => ?_; obtain ⟨HB', BK, GW⟩ := bx_ bE hg hbox hb; replace BKe := kM BKe hb; clear HB hb hbox hg; have HB := HB'; clear HB'; obtain ⟨za, zb, zc, zd, ze, zf, zg, zh, zi, zj, zk, zl⟩ := bk6_ BK; obtain ⟨ya, yb, yc, yd, ye, yf, yg, yh, yi, yj, yk, yl⟩ := bk6_ BKe) | ((with_reducible refine gate_callee (f := 85) rfl ?_); refine gL _ Tryz.func85 _ ((cache_same.calls _ _ _ _ _ _ _ _ _ _ _ _ _ _ A1.out).mono ?_); rintro e w2 ⟨rfl, hb⟩; refine ⟨_, rfl, ?_⟩; replace HB := bS bE hb; (try clear hb)))
  go_ret
  exact ⟨rfl, bE⟩
theorem sweep1_calls (x : S64) (now : Int) (g : Nat) (w : World) (hx : w.heap[g]? = some (.cells #[.int .u64 now] 24 (0, 0))) :
    Calls Tryz.prog 134 #[.agg (celE x), .pointer (some ⟨g, 0, none⟩)] w fun e' w' => e' = .returned (.bool (decide (x.f3 ≤ now))) ∧ Below w.heap.size w w' := by
  have hu64 := Tryz.underlying64
  have hu43 := Tryz.underlying43
  have HB := Aside0.mk (Below.refl w.heap.size w)
  obtain ⟨⟨x0, x1, x2⟩, x3, x4, x5⟩ := x
  unfold celE
  dsimp only
  have BKe := Aside0.mk hx
  clear hx
  go_enter Tryz.func134, Tryz.ntmps134
  go_wp2_with (first | ((with_reducible refine gate_dst (N := 2) rfl ?_); refine bxE (N := 2) (cs := #[.string x0, .string x1, .bool x2, .string x3, .string x4, .int .u64 x5]) (t := 64) fun gb hg w1 hbox hb => ?_; obtain ⟨HB', BK, GW⟩ := bx_ bE hg hbox hb; replace BKe := kM BKe hb; clear HB hb hbox hg; have HB := HB'; clear HB'; obtain ⟨za, zb, zc, zd, ze, zf, zg, zh, zi, zj, zk, zl⟩ := bk6_ BK; obtain ⟨ya, yb⟩ := bk1_ BKe))
  go_ret
  exact ⟨rfl, bE⟩
theorem has1_calls (x e : S64) (now : Int) (g g2 : Nat) (w : World) (hx : w.heap[g]? = some (.cells (celE e) 64 (0, 0))) (hn : w.heap[g2]? = some (.cells #[.int .u64 now] 24 (0, 0))) :
    Calls Tryz.prog 174 #[.agg (celE x), .pointer (some ⟨g, 0, none⟩), .pointer (some ⟨g2, 0, none⟩)] w fun e' w' => e' = .returned (.bool (sameE x e && decide (now < x.f3))) ∧ Below w.heap.size w w' := by
  have hu64 := Tryz.underlying64
  have hu43 := Tryz.underlying43
  have HB := Aside0.mk (Below.refl w.heap.size w)
  have A1 := Aside0.mk (sameE_f x e)
  generalize sameE x e = r at A1
  obtain ⟨⟨x0, x1, x2⟩, x3, x4, x5⟩ := x
  obtain ⟨⟨e0, e1, e2⟩, e3, e4, e5⟩ := e
  unfold celE at hx ⊢
  dsimp only at hx A1 ⊢
  have BKe := Aside0.mk hx
  have BKn := Aside0.mk hn
  clear hx hn
  cases r with
  | true =>
    go_enter Tryz.func174, Tryz.ntmps174
    go_wp2_with (first | ((with_reducible refine gate_dst (N := 3) rfl ?_); refine bxE (N := 3) (cs := #[.string x0, .string x1, .bool x2, .string x3, .string x4, .int .u64 x5]) (t := 64) fun gb hg w1 hbox hb => ?_; obtain ⟨HB', BK, GW⟩ := bx_ bE hg hbox hb; replace BKe := kM BKe hb; replace BKn := kM BKn hb; clear HB hb hbox hg; have HB := HB'; clear HB'; obtain ⟨za, zb, zc, zd, ze, zf, zg, zh, zi, zj, zk, zl⟩ := bk6_ BK; obtain ⟨ya, yb, yc, yd, ye, yf, yg, yh, yi, yj, yk, yl⟩ := bk6_ BKe; obtain ⟨na, nb⟩ := bk1_ BKn) | ((with_reducible refine gate_callee (f := 85) rfl ?_); refine gL _ Tryz.func85 _ ((cache_same.calls _ _ _ _ _ _ _ _ _ _ _ _ _ _ A1.out).mono ?_); rintro e w2 ⟨rfl, hb⟩; refine ⟨_, rfl, ?_⟩; replace BK := kM BK hb; replace BKn := kM BKn hb; replace HB := bS bE hb; (try clear hb); obtain ⟨va, vb, vc, vd, ve, vf, vg, vh, vi, vj, vk, vl⟩ := bk6_ BK; obtain ⟨ma, mb⟩ := bk1_ BKn))
    go_ret
    exact ⟨by simp, bE⟩
  | false =>
    go_enter Tryz.func174, Tryz.ntmps174
    go_wp2_with (first | ((with_reducible refine gate_dst (N := 3) rfl ?_); refine bxE (N := 3) (cs := #[.string x0, .string x1, .bool x2, .string x3, .string x4, .int .u64 x5]) (t := 64) fun gb hg w1 hbox hb => ?_; obtain ⟨HB', BK, GW⟩ := bx_ bE hg hbox hb; replace BKe := kM BKe hb; replace BKn := kM BKn hb; clear HB hb hbox hg; have HB := HB'; clear HB'; obtain ⟨za, zb, zc, zd, ze, zf, zg, zh, zi, zj, zk, zl⟩ := bk6_ BK; obtain ⟨ya, yb, yc, yd, ye, yf, yg, yh, yi, yj, yk, yl⟩ := bk6_ BKe; obtain ⟨na, nb⟩ := bk1_ BKn) | ((with_reducible refine gate_callee (f := 85) rfl ?_); refine gL _ Tryz.func85 _ ((cache_same.calls _ _ _ _ _ _ _ _ _ _ _ _ _ _ A1.out).mono ?_); rintro e w2 ⟨rfl, hb⟩; refine ⟨_, rfl, ?_⟩; replace BK := kM BK hb; replace BKn := kM BKn hb; replace HB := bS bE hb; (try clear hb); obtain ⟨va, vb, vc, vd, ve, vf, vg, vh, vi, vj, vk, vl⟩ := bk6_ BK; obtain ⟨ma, mb⟩ := bk1_ BKn))
    go_ret
    exact ⟨by simp, bE⟩
/-- What is asked of a function value over entries. -/
def PB (g : Nat) (lb : Array Value) (p : S64 → Bool) (w : World) : Prop := ∀ (W : World) (x : S64), Below w.heap.size w W → Calls Tryz.prog g (#[.agg (celE x)] ++ lb) W fun e w' => e = .returned (.bool (p x)) ∧ Below W.heap.size W w'
theorem indexE_calls (A0 : Option Addr) (c0 : Nat) (l0 : List S64) (g : Nat) (lb : Array Value) (p : S64 → Bool) (w : World) (eg : ∀ args w, (callFunc g args).run Tryz.prog w = .ok (.enter g args) w) (hr0 : Kd.C k64 w A0 l0.length l0) (hl : l0.length ≤ 9223372036854775807) (hp : PB g lb p w) :
    Calls Tryz.prog 83 #[.slice A0 l0.length c0, .func (.func g) #[] lb] w fun e w' => ∃ i : Int, e = .returned (.int .i64 i) ∧ decide (0 ≤ i) = l0.any p ∧ (l0.any p = false → i = -1) ∧ Below w.heap.size w w' := by
  have hu64 := Tryz.underlying64
  have hu43 := Tryz.underlying43
  have HR := Aside0.mk hr0
  clear hr0
  go_enter Tryz.func83, Tryz.ntmps83
  go_wp2
  go_loopg [5, 8] l0.length (fun gg _ s8 wr => ∃ i : Nat, i ≤ l0.length ∧ l0.length - i ≤ gg ∧ s8 = .int .i64 i ∧ Aside0 (l0.any p = (l0.drop i).any p) ∧ Aside0 (Below w.heap.size w wr))
  case atStart => exact ⟨0, Nat.zero_le _, by omega, rfl, ⟨by rw [List.drop_zero]⟩, ⟨by repeat (first | exact Below.refl _ _ | apply pw_below_drewN | apply below_drew1)⟩⟩
  case round =>
    obtain ⟨i, hi, hg, rfl, HE, HB⟩ := hrel
    by_cases hlt : i < l0.length
    · have hE := HE.out
      rw [List.drop_eq_getElem_cons hlt, List.any_cons] at hE
      have hc := at_T64 (Kd.C_below HR.out HB.out) (i : Int) (by omega) (by omega)
      have hy : rd_T64 l0 (i : Int) = l0[i] := by simp [rd_T64, List.getD_eq_getElem?_getD, List.getElem?_eq_getElem hlt]
      rw [hy] at hc
      have hcall := hp wr l0[i] HB.out
      generalize l0[i] = y at hE hc hcall
      clear HE
      have HE := Aside0.mk hE
      clear hE
      generalize p y = b at HE hcall
      unfold celE at hcall
      clear hy hp
      obtain ⟨⟨y0, y1, y2⟩, y3, y4, y5⟩ := y
      dsimp only at hc hcall
      obtain ⟨ad, e0, q0, q1, q2, q3, q4, q5⟩ := hc
      cases e0
      rw [Int.toNat_natCast] at q0 q1 q2 q3 q4 q5
      have c5 : decide ((i : Int) < (l0.length : Int)) = true := decide_eq_true (by omega)
      have c6 : (0 : Int) ≤ (i : Int) := by omega
      have c7 : (i : Int) < (l0.length : Int) := by omega
      have HC := Aside0.mk hcall
      clear hcall
      cases b with
      | true =>
        go_wp2_with (go_at_fn g; refine HC.out.mono ?_; rintro e w2 ⟨rfl, hb⟩; have HB2 := Aside0.mk hb; clear hb)
        go_ret
        exact ⟨_, rfl, by rw [HE.out]; simp, (fun h => by rw [HE.out] at h; cases h), below_step HB.out HB2.out⟩
      | false =>
        go_wp2_with (go_at_fn g; refine HC.out.mono ?_; rintro e w2 ⟨rfl, hb⟩; have HB2 := Aside0.mk hb; clear hb)
        go_roundg (l0.length - (i + 1))
        case measure => omega
        case rel => exact ⟨i + 1, by omega, by omega, by go_num, ⟨by rw [HE.out, Bool.false_or]⟩, ⟨below_step HB.out HB2.out⟩⟩
    · have c5 : decide ((i : Int) < (l0.length : Int)) = false := decide_eq_false (by omega)
      have hE := HE.out
      rw [List.drop_of_length_le (by omega)] at hE
      go_wp2
      go_ret
      exact ⟨_, rfl, by rw [hE]; rfl, fun _ => rfl, HB.out⟩
theorem contE_calls (A0 : Option Addr) (c0 : Nat) (l0 : List S64) (g : Nat) (lb : Array Value) (p : S64 → Bool) (w : World) (eg : ∀ args w, (callFunc g args).run Tryz.prog w = .ok (.enter g args) w) (hr0 : Kd.C k64 w A0 l0.length l0) (hl : l0.length ≤ 9223372036854775807) (hp : PB g lb p w) :
    Calls Tryz.prog 173 #[.slice A0 l0.length c0, .func (.func g) #[] lb] w fun e w' => e = .returned (.bool (l0.any p)) ∧ Below w.heap.size w w' := by
  have HC := Aside0.mk (indexE_calls A0 c0 l0 g lb p w eg hr0 hl hp)
  clear hr0 hp
  go_enter Tryz.func173, Tryz.ntmps173
  go_wp2_with (go_at_call 83; refine HC.out.mono ?_; rintro e w2 ⟨i, rfl, hd, hn, hb⟩; have HB2 := Aside0.mk hb; have HD := Aside0.mk hd; clear hb hd hn)
  go_ret
  exact ⟨by rw [← HD.out]; simp, HB2.out⟩
/-- slices.DeleteFunc where none is to go. -/
theorem delE_calls (A0 : Option Addr) (c0 : Nat) (l0 : List S64) (g : Nat) (lb : Array Value) (p : S64 → Bool) (w : World) (eg : ∀ args w, (callFunc g args).run Tryz.prog w = .ok (.enter g args) w) (hr0 : Kd.C k64 w A0 l0.length l0) (hl : l0.length ≤ 9223372036854775807) (hp : PB g lb p w) (hn : l0.any p = false) :
    Calls Tryz.prog 172 #[.slice A0 l0.length c0, .func (.func g) #[] lb] w fun e w' => e = .returned (.slice A0 l0.length c0) ∧ Below w.heap.size w w' := by
  have HC := Aside0.mk (indexE_calls A0 c0 l0 g lb p w eg hr0 hl hp)
  have HN := Aside0.mk hn
  clear hr0 hp hn
  go_enter Tryz.func172, Tryz.ntmps172
  go_wp2_with (go_at_call 83; refine HC.out.mono ?_; rintro e w2 ⟨i, rfl, hd, hn, hb⟩; have HB2 := Aside0.mk hb; obtain rfl := hn HN.out; clear hb hd hn)
  go_ret
  exact ⟨rfl, HB2.out⟩
/-- A cache: its entries in a row of its own, its bound. -/
def IsC (W : World) (base gc : Nat) (xs : List S64) (most : Int) : Prop := ∃ v, W.heap[gc]? = some (.cells #[v, .int .i64 most] 102 (0, 0)) ∧ base ≤ gc ∧ Kd.R k64 64 W base (fun k => k ≠ gc) v xs
theorem setCell_same {w : World} {g i : Nat} {cs : Array Value} {t : TypeId} {z : Nat × Nat} {u : Value} (h : w.heap[g]? = some (.cells cs t z)) (hu : cs[i]? = some u) : w.setCell ⟨g, i, none⟩ u = w := by
  have hs : cs.setIfInBounds i u = cs := by
    apply Array.ext_getElem?
    intro j
    rw [Array.getElem?_setIfInBounds]
    by_cases e : i = j
    · subst e
      rw [if_pos rfl, hu]
      by_cases hn : i < cs.size
      · rw [if_pos hn]
      · rw [Array.getElem?_eq_none (by omega)] at hu
        cases hu
    · rw [if_neg e]
  have hm : (w.setCell ⟨g, i, none⟩ u).heap = w.heap := by
    unfold World.setCell
    apply Array.ext_getElem?
    intro k
    rw [Array.getElem?_modify]
    by_cases e : g = k
    · subst e
      rw [if_pos rfl, h]
      show some (Obj.cells (cs.setIfInBounds i u) t z) = _
      rw [hs]
    · rw [if_neg e]
  cases w
  unfold World.setCell at hm ⊢
  simp only at hm ⊢
  rw [hm]
theorem drop_calls (gc : Nat) (A0 : Option Addr) (c0 : Nat) (l0 : List S64) (most : Int) (g : Nat) (lb : Array Value) (p : S64 → Bool) (w : World) (eg : ∀ args w, (callFunc g args).run Tryz.prog w = .ok (.enter g args) w) (hk : w.heap[gc]? = some (.cells #[.slice A0 l0.length c0, .int .i64 most] 102 (0, 0))) (hr : Kd.C k64 w A0 l0.length l0) (hl : l0.length ≤ 9223372036854775807) (hp : PB g lb p w) (hn : l0.any p = false) :
    Calls Tryz.prog 133 #[.pointer (some ⟨gc, 0, none⟩), .func (.func g) #[] lb] w fun e w' => e = .returned (.int .i64 0) ∧ Below w.heap.size w w' := by
  have hu102 := Tryz.underlying102
  have HK := Aside0.mk hk
  have HD := Aside0.mk (delE_calls A0 c0 l0 g lb p w eg hr hl hp hn)
  clear hr hk hp hn
  go_enter Tryz.func133, Tryz.ntmps133
  have z0 := blk_cell HK.out 0
  have z1 := blk_frozen HK.out 0
  go_wp2_with (go_at_call 172; refine HD.out.mono ?_; rintro e w2 ⟨rfl, hb⟩; have HB2 := Aside0.mk hb; clear hb; have y0 := blk_cell (blk_below HK.out HB2.out) 0; have y1 := blk_frozen (blk_below HK.out HB2.out) 0)
  go_ret
  refine ⟨by first | rfl | (simp; done) | (simp [wrap64]; done), ?_⟩
  rw [setCell_same (blk_below HK.out HB2.out) rfl]
  exact HB2.out
theorem sweep_calls (gc : Nat) (A0 : Option Addr) (c0 : Nat) (l0 : List S64) (most now : Int) (w : World) (hk : w.heap[gc]? = some (.cells #[.slice A0 l0.length c0, .int .i64 most] 102 (0, 0))) (hr : Kd.C k64 w A0 l0.length l0) (hl : l0.length ≤ 9223372036854775807) (hn : l0.any (fun x => decide (x.f3 ≤ now)) = false) :
    Calls Tryz.prog 82 #[.pointer (some ⟨gc, 0, none⟩), .int .u64 now] w fun e w' => e = .returned (.int .i64 0) ∧ Below w.heap.size w w' := by
  have HB := Aside0.mk (Below.refl w.heap.size w)
  have HK := Aside0.mk hk
  have HR := Aside0.mk hr
  have HN := Aside0.mk hn
  clear hk hr hn
  go_enter Tryz.func82, Tryz.ntmps82
  go_wp2_with (first | ((with_reducible refine gate_dst (N := 3) rfl ?_); refine bxE (N := 3) (cs := #[.int .u64 now]) (t := 24) fun gb hg w1 hbox hb => ?_; obtain ⟨HB', BK, GW⟩ := bx_ bE hg hbox hb; clear HB hb hg hbox; have HB := HB'; clear HB') | (go_at_call 133; refine (drop_calls gc A0 c0 l0 most 134 _ (fun x => decide (x.f3 ≤ now)) _ (enters_of Tryz.func134 (by kernel_rfl) rfl) (blk_below HK.out HB.out) (Kd.C_below HR.out HB.out) hl ?hP HN.out).mono ?_; (case hP => exact fun W x hb => sweep1_calls x now gb W (blk_below BK.out hb)); rintro e w2 ⟨rfl, hb⟩; replace HB := bS bE hb; clear hb))
  go_ret
  exact ⟨rfl, HB.out⟩
theorem has_calls (gc : Nat) (l0 : List S64) (most : Int) (e : S64) (now : Int) (base : Nat) (w : World) (hc : IsC w base gc l0 most) (hl : l0.length ≤ 9223372036854775807) :
    Calls Tryz.prog 135 #[.pointer (some ⟨gc, 0, none⟩), .agg (celE e), .int .u64 now] w fun e' w' => e' = .returned (.bool (l0.any fun x => sameE x e && decide (now < x.f3))) ∧ Below w.heap.size w w' := by
  have hu102 := Tryz.underlying102
  have hu64 := Tryz.underlying64
  have hu43 := Tryz.underlying43
  obtain ⟨v, hk, hg, hr⟩ := hc
  obtain ⟨A0, c0, rfl⟩ := Kd.R_slice hr
  have HR := Aside0.mk (Kd.R_reads' hr).2.2
  have HK := Aside0.mk hk
  have HB := Aside0.mk (Below.refl w.heap.size w)
  clear hr hk
  have hce : celE e = #[.string e.f0.f0, .string e.f0.f1, .bool e.f0.f2, .string e.f1, .string e.f2, .int .u64 e.f3] := rfl
  rw [hce]
  go_enter Tryz.func135, Tryz.ntmps135
  go_wp2_with (first | ((with_reducible refine gate_dst (N := 4) rfl ?_); refine bxE (N := 4) (cs := #[.string e.f0.f0, .string e.f0.f1, .bool e.f0.f2, .string e.f1, .string e.f2, .int .u64 e.f3]) (t := 64) fun gb hg w1 hbox hb => ?_; obtain ⟨HB', BK, GW⟩ := bx_ bE hg hbox hb; clear HB hb hbox hg; have HB := HB'; clear HB') | ((with_reducible refine gate_dst (N := 5) rfl ?_); refine bxE (N := 5) (cs := #[.int .u64 now]) (t := 24) fun gn hg w2 hbox hb => ?_; obtain ⟨HB', BN, GN⟩ := bx_ bE hg hbox hb; replace BK := kM BK hb; clear HB hb hbox hg; have HB := HB'; clear HB'; have y0 := blk_cell (blk_below HK.out HB.out) 0; have y1 := blk_frozen (blk_below HK.out HB.out) 0) | (go_at_call 173; refine (contE_calls A0 c0 l0 174 _ (fun x => sameE x e && decide (now < x.f3)) _ (enters_of Tryz.func174 (by kernel_rfl) rfl) (Kd.C_below HR.out HB.out) hl ?hP).mono ?_; (case hP => exact fun W x hb => has1_calls x e now gb gn W (blk_below BK.out hb) (blk_below BN.out hb)); rintro e w3 ⟨rfl, hb⟩; replace HB := bS bE hb; clear hb))
  go_ret
  exact ⟨by simp, HB.out⟩
theorem info64 : (Tryz.prog.info? 64).map (fun i => (i.zero, i.size, i.bytes)) = some (some (.agg #[.string ⟨#[]⟩, .string ⟨#[]⟩, .bool false, .string ⟨#[]⟩, .string ⟨#[]⟩, .int .u64 0]), 6, 80) := by kernel_rfl
end Go.Proofs.YtfmajangcbgooaaGreatDoor.Pr
