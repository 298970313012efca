
/- cache.Cache's Put, where nothing goes and there is room: walked by hand. -/
import Derived.Test.YtfmajangcbgooaaGreatDoorG13
import Derived.StillTailTactics
namespace Go.Proofs.YtfmajangcbgooaaGreatDoor.Pr
open Go.RowKit Go.Proofs.YtfmajangcbgooaaGreatDoorW.PrintWords Go.Proofs.YtfmajangcbgooaaGreatDoorW.PrintLast Go.Proofs.YtfmajangcbgooaaGreatDoorW.PrintMore
set_option linter.unusedVariables false
set_option linter.unusedSimpArgs false
set_option maxHeartbeats 8000000
set_option maxRecDepth 100000
theorem IsC.below {w w' : World} {base gc : Nat} {xs : List S64} {most : Int} (h : IsC w base gc xs most) (hb : Below w.heap.size w w') : IsC w' base gc xs most := by
  obtain ⟨v, hk, hg, hr⟩ := h
  exact ⟨v, blk_below hk hb, hg, Kd.R_below hr hb⟩
theorem IsC.ne {w : World} {base gc : Nat} {xs : List S64} {most : Int} (h : IsC w base gc xs most) {g t : Nat} {cells : Array Value} (hb : w.heap[g]? = some (.cells cells t (0, 0))) (ht : t ≠ 102) : g ≠ gc := by
  obtain ⟨v, hk, _⟩ := h
  rintro rfl
  have h1 := Option.some.inj (hk.symm.trans hb)
  injection h1 with _ h2
  exact ht h2.symm
/-- A cache apart from the blocks of F. -/
def IsK (W : World) (base gc : Nat) (F : List Nat) (xs : List S64) (most : Int) : Prop := ∃ v, W.heap[gc]? = some (.cells #[v, .int .i64 most] 102 (0, 0)) ∧ base ≤ gc ∧ (∀ f ∈ F, f < W.heap.size ∧ f ≠ gc) ∧ Kd.R k64 64 W base (fun k => k ≠ gc ∧ k ∉ F) v xs
theorem IsK.isC {W : World} {base gc : Nat} {F : List Nat} {xs : List S64} {most : Int} (h : IsK W base gc F xs most) : IsC W base gc xs most := by
  obtain ⟨v, hk, hg, _, hr⟩ := h
  exact ⟨v, hk, hg, Kd.R_mono hr fun _ h => h.1⟩
theorem IsK.below {w w' : World} {base gc : Nat} {F : List Nat} {xs : List S64} {most : Int} (h : IsK w base gc F xs most) (hb : Below w.heap.size w w') : IsK w' base gc F xs most := by
  obtain ⟨v, hk, hg, hf, hr⟩ := h
  exact ⟨v, blk_below hk hb, hg, fun f hm => ⟨Nat.lt_of_lt_of_le (hf f hm).1 hb.size, (hf f hm).2⟩, Kd.R_below hr hb⟩
theorem put_calls (F : List Nat) (gc : Nat) (l0 : List S64) (most : Int) (e : S64) (now : Int) (w0 w : World) (hB : Below w0.heap.size w0 w) (hc : IsK w w0.heap.size gc F l0 most) (hl : l0.length ≤ 1000) (hn : l0.any (fun x => decide (x.f3 ≤ now)) = false) (hs : l0.any (fun x => sameE x e) = false) (hm : (l0.length : Int) < most) (hx : e.f1.toList.isEmpty = !e.f2.toList.isEmpty) (ht : ¬ e.f3 ≤ now) :
    Calls Tryz.prog 43 #[.pointer (some ⟨gc, 0, none⟩), .agg (celE e), .int .u64 now] w fun e' w' => e' = .returned (.bool true) ∧ IsK w' w0.heap.size gc F (l0 ++ [e]) most ∧ Below w0.heap.size w0 w' ∧ ∀ f ∈ F, w'.heap[f]? = w.heap[f]? := by
  have hu102 := Tryz.underlying102
  have hu64 := Tryz.underlying64
  have hu43 := Tryz.underlying43
  have hu59 := Tryz.underlying59
  obtain ⟨v, hk, hgc, hF, hr⟩ := hc
  obtain ⟨A0, c0, rfl⟩ := Kd.R_slice hr
  have HK := Aside0.mk hk
  have HF := Aside0.mk hF
  have HR := Aside0.mk (Kd.R_mono (Kd.R_bound hr) (fun _ h => (⟨h.1, h.2.2.1⟩ : _ ∧ _)))
  have HW := Aside0.mk hB
  have HN := Aside0.mk hn
  have HS := Aside0.mk hs
  have HB := Aside0.mk (Below.refl w.heap.size w)
  have hgw : gc < w.heap.size := blk_lt hk
  clear hk hr hB hn hs hF
  have hce : celE e = #[.string e.f0.f0, .string e.f0.f1, .bool e.f0.f2, .string e.f1, .string e.f2, .int .u64 e.f3] := rfl
  rw [hce]
  have c1 : (e.f1.toList.isEmpty == e.f2.toList.isEmpty) = false := by rw [hx]; cases e.f2.toList.isEmpty <;> rfl
  have c2 : decide (e.f3 ≤ now) = false := decide_eq_false ht
  have c3 : decide (most ≤ (l0.length : Int)) = false := decide_eq_false (by omega)
  clear hce hx ht
  go_enter Tryz.func43, Tryz.ntmps43
  go_wp2_with (first | ((with_reducible refine gate_dst (N := 4) rfl ?_); refine bxE (N := 4) (cs := #[.string e.f0.f0, .string e.f0.f1, .bool e.f0.f2, .string e.f1, .string e.f2, .int .u64 e.f3]) (t := 64) fun gb hg w1 hbox hb => ?_; obtain ⟨HB', BK, GW⟩ := bx_ bE hg hbox hb; clear HB hb hbox hg; have HB := HB'; clear HB'; obtain ⟨za, zb, zc, zd, ze, zf, zg, zh, zi, zj, zk, zl⟩ := bk6_ BK) | (go_at_call 82; refine (sweep_calls gc A0 c0 l0 most now _ (blk_below HK.out HB.out) (Kd.R_reads' (Kd.R_below HR.out HB.out)).2.2 (by omega) HN.out).mono ?_; rintro e' w2 ⟨rfl, hb⟩; replace BK := kM BK hb; replace HB := bS bE hb; clear hb; have y0 := blk_cell (blk_below HK.out HB.out) 0; have y1 := blk_frozen (blk_below HK.out HB.out) 0) | (go_at_call 83; refine (indexE_calls A0 c0 l0 84 _ (fun x => sameE x e) _ (enters_of Tryz.func84 (by kernel_rfl) rfl) (Kd.R_reads' (Kd.R_below HR.out HB.out)).2.2 (by omega) ?hP).mono ?_; (case hP => exact fun W x hb => put1_calls x e gb W (blk_below BK.out hb)); rintro e' w3 ⟨i, rfl, hd, hi, hb⟩; obtain rfl := hi HS.out; clear hd hi; replace BK := kM BK hb; replace HB := bS bE hb; clear hb; have x0 := blk_cell (blk_below HK.out HB.out) 0; have x1 := blk_frozen (blk_below HK.out HB.out) 0; have x2 := blk_cell (blk_below HK.out HB.out) 1; have x3 := blk_frozen (blk_below HK.out HB.out) 1; obtain ⟨ua, ub, uc, ud, ue, uf, ug, uh, ui, uj, uk, ul⟩ := bk6_ BK))
  go_quiet (fail)
  go_wp2
  have D1 := Aside0.mk (blk_drew (kN (blk_below HK.out HB.out) nq))
  have D2 := Aside0.mk (blk_drew (kN BK.out nq))
  have D3 := Aside0.mk (Kd.R_drew (Kd.R_drewN (Kd.R_below HR.out HB.out) nq))
  have D4 := Aside0.mk (below_drew1 (pw_below_drewN (below_step HW.out HB.out) nq))
  have D5 := Aside0.mk (below_drew1 (pw_below_drewN HB.out nq))
  generalize w3.drewN nq = w4 at D1 D2 D3 D4 D5 ⊢
  have hne : gb ≠ gc := by have := GW.out; omega
  refine start_ (n := 11) (S := fun w' => w'.cell? ⟨gc, 0, none⟩ = some (.slice A0 l0.length c0) ∧ w'.cell? ⟨gb, 0, none⟩ = some (.string e.f0.f0) ∧ w'.cell? ⟨gb, 1, none⟩ = some (.string e.f0.f1) ∧ w'.cell? ⟨gb, 2, none⟩ = some (.bool e.f0.f2) ∧ w'.cell? ⟨gb, 3, none⟩ = some (.string e.f1) ∧ w'.cell? ⟨gb, 4, none⟩ = some (.string e.f2) ∧ w'.cell? ⟨gb, 5, none⟩ = some (.int .u64 e.f3)) (ds := [10]) (bz 11 0) (by kernel_rfl) rfl rfl ⟨blk_cell D1.out 0, bkc6_ D2⟩ (fun hHeld => ?_)
  generalize w4.drew = w4d at D1 D2 D3 D4 D5 hHeld ⊢
  refine qA 0 69 11 1 ?_
  refine qA 1 70 11 3 ?_
  refine qA 2 71 11 7 ?_
  refine qA 3 72 11 15 ?_
  refine tA7 4 73 11 31 ?_
  refine tA7 5 74 11 63 ?_
  refine oB 6 75 11 127 fun K hK => ?_
  refine value_ (w1 := ?_) (v := ?_) (by rfl) rfl ?_ ?_
  rotate_left 2
  · go_simp
    constructor
    · rfl
    · rfl
  refine hK.out _ _ ⟨blk_cell (blk_alloc D1.out _) 0, bkc6_ ⟨blk_alloc D2.out _⟩⟩ (fun hHeld => ?_)
  clear hK K
  refine nA 75 ?_
  refine oB 7 76 11 255 fun K hK => ?_
  refine Kd.R_append_step k64 (w0 := w0) w0.heap.size (by rfl) (.tmp 73) (.tmp 75) 59 64 (.agg #[.string ⟨#[]⟩, .string ⟨#[]⟩, .bool false, .string ⟨#[]⟩, .string ⟨#[]⟩, .int .u64 0]) 80 rfl Tryz.underlying59 info64 rfl (by decide) (by omega) (.slice A0 l0.length c0) l0 e [.string e.f0.f0, .string e.f0.f1, .bool e.f0.f2, .string e.f1, .string e.f2, .int .u64 e.f3] (fun k_ => k_ ≠ gc ∧ k_ ∉ F) (fun _ => False) rfl rfl ?aP (fun _ hk => hk.elim) ?aF ?aO ?aB ?aS ?aL ?_
  case aP => exact k64_mkM _ _ _ e
  case aF => exact fun k_ hk => ⟨Kd.freshB D1.out k_ hk, fun hm => by have h1 := (HF.out k_ hm).1; have h2 := D5.out.size; omega⟩
  case aO => exact Kd.R_mono D3.out (fun _ hk => hk.1)
  case aB => exact D4.out
  case aS => exact D4.out.size
  case aL => omega
  intro v1 w5 ho hb hg hat
  obtain ⟨A1, d1, rfl⟩ := Kd.R_slice ho
  have E1 := Aside0.mk (blk_grown D1.out hg (Kd.R_away D3.out (fun _ hk => hk.1.1)))
  have E2 := Aside0.mk (blk_grown D2.out hg (Kd.R_away D3.out (fun k hk => by have := GW.out; omega)))
  have E3 := Aside0.mk ho
  have E4 := Aside0.mk hb
  have E5 : Aside0 (w.heap.size ≤ w5.heap.size ∧ ∀ f ∈ F, w5.heap[f]? = w.heap[f]?) := ⟨Nat.le_trans D5.out.size hg.size, fun f hm => by
    have h1 := HF.out f hm
    refine (hg.block f (Nat.lt_of_lt_of_le h1.1 D5.out.size) (fun he => ?_)).trans (D5.out.block f h1.1)
    exact (D3.out.1 f he.symm).1.2 hm⟩
  clear ho hb hg hat D1 D2 D3 D4 D5
  refine hK.out _ _ ⟨blk_cell E1.out 0, bkc6_ E2⟩ (fun hHeld => ?_)
  clear hK K
  refine nA 76 ?_
  refine qA 8 77 11 511 ?_
  refine qA 9 78 11 1023 ?_
  have p0 := blk_cell E1.out 0
  have p1 := blk_frozen E1.out 0
  refine last_ (i := 10) (N := none) (bz 11 2047) rfl rfl (by kernel_rfl) (by decide) (fun K hK => ?_)
  refine skip_ (w1 := ?_) (by rfl) rfl ?_ ?_
  rotate_left
  · go_simp
    rfl
  refine hK.out _ _ ?_
  clear hK K
  refine done_ (by kernel_rfl) ?_
  go_wp2
  go_ret
  exact ⟨rfl, ⟨_, blk_put E1.out 0 _ rfl, hgc, fun f hm => ⟨by have h1 := (HF.out f hm).1; have h2 := E5.out.1; simp only [World.setCell, Array.size_modify]; omega, (HF.out f hm).2⟩, by have q := Kd.R_far (p := ⟨gc, 0, none⟩) E3.out (fun _ h => h.1) (.slice A1 (l0.length + 1) d1); rwa [show (l0 ++ [e]).length = l0.length + 1 by simp] at q⟩, below_set E4.out hgc, fun f hm => (Below.heap_setCell _ _ _ f (HF.out f hm).2).trans (E5.out.2 f hm)⟩
end Go.Proofs.YtfmajangcbgooaaGreatDoor.Pr
