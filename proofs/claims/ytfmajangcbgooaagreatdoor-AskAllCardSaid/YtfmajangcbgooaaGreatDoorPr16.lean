import Derived.Test.YtfmajangcbgooaaGreatDoorPr0
import Derived.Test.YtfmajangcbgooaaGreatDoorK0
import Derived.Test.YtfmajangcbgooaaGreatDoorPr14
import Derived.Test.YtfmajangcbgooaaGreatDoorG1
namespace Go.Proofs.YtfmajangcbgooaaGreatDoor.Pr
open Go.RowKit Go.Proofs.YtfmajangcbgooaaGreatDoorW.PrintWords Go.Proofs.YtfmajangcbgooaaGreatDoorW.PrintLast Go.Proofs.YtfmajangcbgooaaGreatDoorW.PrintMore
attribute [local go_sem] max2_int min2_int max_two min_two max_three min_three max_four min_four
set_option linter.unusedVariables false
set_option maxHeartbeats 64000000
set_option maxRecDepth 100000
set_option linter.unusedSimpArgs false
mutual
def lockkeeperref3_Parse.j1 : Nat → ByteArray → ByteArray → ByteArray → Int → Option (ByteArray × ByteArray × Int × Int)
 | 0, _, _, _, _ => none
 | k + 1, g, a, d, b => (lockkeeperref1_Lower.f g).bind fun c => ((lockkeeperref3_Check.f k a c b).bind fun e => (if e = true then (some (a, c, b, 0)) else (some ((⟨#[]⟩ : ByteArray), (⟨#[]⟩ : ByteArray), 0, 3))))
def lockkeeperref3_Parse.l0 : Nat → ByteArray → Int → ByteArray → ByteArray → Int → Option (ByteArray × ByteArray × Int × Int)
 | 0, _, _, _, _, _ => none
 | k + 1, e, g, a, b, c => if g < (e.size : Int) then (if 0 ≤ g then (if (bt e g) = 58 then (if 0 ≤ (wrap64 (g + 1)) then (if (wrap64 (g + 1)) ≤ (e.size : Int) then ((lockkeeperref1_Count.f k (e.extract ((wrap64 (g + 1)) : Int).toNat e.size) 65535).bind fun d => (if d.2 = true then (if d.1 < 1 then (some ((⟨#[]⟩ : ByteArray), (⟨#[]⟩ : ByteArray), 0, 3)) else (if g ≤ (e.size : Int) then (lockkeeperref3_Parse.j1 k (e.extract 0 (g : Int).toNat) a b (wrap64 (d.1))) else (none))) else (some ((⟨#[]⟩ : ByteArray), (⟨#[]⟩ : ByteArray), 0, 3)))) else (none)) else (none)) else (lockkeeperref3_Parse.l0 k e (wrap64 (g + 1)) a b c)) else (none)) else (lockkeeperref3_Parse.j1 k e a b c)
end
def lockkeeperref3_Parse.f (k : Nat) (c : ByteArray) : Option (ByteArray × ByteArray × Int × Int) := if (c.size : Int) > 512 then (some ((⟨#[]⟩ : ByteArray), (⟨#[]⟩ : ByteArray), 0, 4)) else ((lockkeeperref3_Behind.f k c).bind fun a => (if a < 0 then (some ((⟨#[]⟩ : ByteArray), (⟨#[]⟩ : ByteArray), 0, 3)) else (if 0 ≤ a then (if a ≤ (c.size : Int) then ((lockkeeperref1_Lower.f (c.extract 0 (a : Int).toNat)).bind fun b => (if 0 ≤ (wrap64 (a + 3)) then (if (wrap64 (a + 3)) ≤ (c.size : Int) then ((lockkeeperref3_Default.f b).bind fun d => (lockkeeperref3_Parse.l0 k (c.extract ((wrap64 (a + 3)) : Int).toNat c.size) 0 b (⟨#[]⟩ : ByteArray) d)) else (none)) else (none))) else (none)) else (none))))
theorem lockkeeperref3_Parse.mono_l : ∀ k, (∀ a b c d, LeO (lockkeeperref3_Parse.j1 k a b c d) (lockkeeperref3_Parse.j1 (k + 1) a b c d)) ∧ (∀ a b c d e, LeO (lockkeeperref3_Parse.l0 k a b c d e) (lockkeeperref3_Parse.l0 (k + 1) a b c d e))
 | 0 => ⟨fun _ _ _ _ r h => by simp [lockkeeperref3_Parse.j1] at h, fun _ _ _ _ _ r h => by simp [lockkeeperref3_Parse.l0] at h⟩
 | k + 1 => by
  obtain ⟨ih0, ih1⟩ := lockkeeperref3_Parse.mono_l k
  have g := @lockkeeperref1_Count.mono; have i := @lockkeeperref3_Behind.mono; have j := @lockkeeperref3_Check.mono
  refine ⟨?_, ?_⟩
  ·intros
   unfold lockkeeperref3_Parse.j1
   exact moE
  ·intros
   unfold lockkeeperref3_Parse.l0
   exact moE
theorem lockkeeperref3_Parse.mono : ∀ a k, LeO (lockkeeperref3_Parse.f k a) (lockkeeperref3_Parse.f (k + 1) a) := by
 intro a k
 obtain ⟨ih0, ih1⟩ := lockkeeperref3_Parse.mono_l k
 have b := @lockkeeperref1_Count.mono; have c := @lockkeeperref3_Behind.mono; have d := @lockkeeperref3_Check.mono; unfold lockkeeperref3_Parse.f
 exact moE
theorem lockkeeperref3_Parse.calls (k : Nat) (Z r1 r2 : ByteArray) (r3 r4 : Int) (w : World) (h : lockkeeperref3_Parse.f k Z = some (r1, r2, r3, r4)) :
  Calls Tryz.prog 51 #[.string Z] w fun e w' => e = .returned (.tuple #[.agg #[.string r1, .string r2, .int .i64 r3], .int .i64 r4]) ∧ Below w.heap.size w w' := by
 have hu70 := Tryz.underlying70; have HB := Aside0.mk (Below.refl w.heap.size w); have H := h; clear h; unfold lockkeeperref3_Parse.f at H; revert H; refine itePP_ (fun c1 H => ?g1p) (fun c1 H => ?g1n)
 case' g1p =>
  have a1 : decide (512 < (Z.size : Int)) = true := decide_eq_true c1; have a2 : decide (512 < Z.size) = true := decide_eq_true (by omega); clear c1
  simp only [Option.some.injEq, Prod.mk.injEq] at H
  obtain ⟨rfl, rfl, rfl, rfl⟩ := H; have ar := trivial
 case' g1n =>
  have a1 : decide (512 < (Z.size : Int)) = false := decide_eq_false c1; have a2 : decide (512 < Z.size) = false := decide_eq_false (by omega); clear c1; replace H := bd_ H; obtain ⟨t1, A2, H⟩ := H; revert H; refine iteDD_ (fun a3 H => ?g2p) (fun a3 H => ?g2n)
  case' g2p =>
   simp only [Option.some.injEq, Prod.mk.injEq] at H
   obtain ⟨rfl, rfl, rfl, rfl⟩ := H; have ar := trivial
  case' g2n =>
   revert H; refine iteNT_ fun au av => iteNT_ fun aw ax H => ?_; replace H := bd_ H; obtain ⟨M, A6, H⟩ := H; generalize D : (wrap64 (t1 + 3)) = ji7 at H; (try rw [D] at A2); (try rw [D] at A6); have hji7w : (IntKind.i64.wrap (t1 + 3)) = ji7 := (i64_w _).trans D; revert H; refine iteNT_ fun ay az => iteNT_ fun aA aB H => ?_; replace H := bd_ H; obtain ⟨t3, A10, H⟩ := H; have a4 := Aside0.mk H; clear H; have M3_1 := trivial
 all_goals
  go_enter Tryz.func51, Tryz.ntmps51
  first
  | clear ar
    go_wp2_with (first | ((with_reducible refine gate_dst (N := 2) rfl ?_); refine bxE (N := 2) (cs := #[.string ⟨#[]⟩, .string ⟨#[]⟩, .int .i64 0]) (t := 70) fun n hg u hbox hb => ?_; obtain ⟨HB', a, O⟩ := bx_ bE hg hbox hb; have GE1a1 := O; clear HB hb hbox hg; have HB := HB'; clear HB'; obtain ⟨z1a3_0, z1a3_1, z1a3_2, zf1a3_0, zf1a3_1, zf1a3_2⟩ := bk3_ a) | ((with_reducible refine gate_callee (f := 103) rfl ?_); refine gL _ Tryz.func103 _ ((lockkeeperref3_Behind.calls k Z _ _ A2.out).mono ?_); rintro e w' ⟨rfl, ⟨nd, rfl⟩⟩; refine ⟨_, rfl, ?_⟩; (try (rw [drewN_self u]; generalize hq_ : World.drewN u _ = u; have n0_ : Aside0 (u.heap[n]? = some (.cells #[.string ⟨#[]⟩, .string ⟨#[]⟩, .int .i64 0] 70 (0, 0))) := ⟨by rw [← hq_]; exact (kC a)⟩; have n1_ : Aside0 (Below w.heap.size w u) := ⟨by rw [← hq_]; exact bE⟩; clear a HB hq_; have a := n0_; have HB := n1_; clear n0_ n1_)); obtain ⟨z2a1_0, z2a1_1, z2a1_2, zf2a1_0, zf2a1_1, zf2a1_2⟩ := bk3_ a)); refine bodyPost_ret (results_ct rfl _ _ n 70 #[.string ⟨#[]⟩, .string ⟨#[]⟩, .int .i64 0] (0, 0) _ rfl (kT) Tryz.underlying70 rfl (by kernel_rfl)) rfl ?_; exact ⟨rE, bE⟩
  | clear M3_1
    go_upto_block 0 with (first | ((with_reducible refine gate_dst (N := 2) rfl ?_); refine bxE (N := 2) (cs := #[.string ⟨#[]⟩, .string ⟨#[]⟩, .int .i64 0]) (t := 70) fun n hg u hbox hb => ?_; obtain ⟨HB', a, O⟩ := bx_ bE hg hbox hb; have GE1a1 := O; clear HB hb hbox hg; have HB := HB'; clear HB') | ((with_reducible refine gate_callee (f := 103) rfl ?_); refine gL _ Tryz.func103 _ ((lockkeeperref3_Behind.calls k Z t1 _ A2.out).mono ?_); rintro e w' ⟨rfl, ⟨nd, rfl⟩⟩; refine ⟨_, rfl, ?_⟩; (try (rw [drewN_self u]; generalize hq_ : World.drewN u _ = u; have n0_ : Aside0 (u.heap[n]? = some (.cells #[.string ⟨#[]⟩, .string ⟨#[]⟩, .int .i64 0] 70 (0, 0))) := ⟨by rw [← hq_]; exact (kC a)⟩; have n1_ : Aside0 (Below w.heap.size w u) := ⟨by rw [← hq_]; exact bE⟩; clear a HB hq_; have a := n0_; have HB := n1_; clear n0_ n1_))) | ((with_reducible refine gate_callee (f := 107) rfl ?_); refine gL _ Tryz.func107 _ ((lockkeeperref1_Lower.calls (Z.extract 0 (t1 : Int).toNat) M _ A6.out).mono ?_); rintro e w3a1 ⟨rfl, hb⟩; refine ⟨_, rfl, ?_⟩; replace a := kM a hb; replace HB := bS bE hb; (try clear hb)) | ((with_reducible refine gate_dst (N := 5) rfl ?_); refine bxE (N := 5) (cs := #[.string ⟨#[]⟩, .string ⟨#[]⟩, .int .i64 0]) (t := 70) fun v hg w4a2 hbox hb => ?_; have b := Aside0.mk (hbox); have GW4a1 := sE (w := w) hg; have GE4a1 := sE (w := w) hg; have p := neL a hg; have q := neG a hg; replace a := kM a hb; replace HB := bS bE hb; clear hb hbox hg; have hnb4a3 := q.out; have hnc4a3 := p.out; obtain ⟨U, W, X, J, K, L⟩ := bk3_ b) | ((with_reducible refine gate_callee (f := 108) rfl ?_); refine gL _ Tryz.func108 _ ((lockkeeperref3_Default.calls M t3 _ A10.out).mono ?_); rintro e w' ⟨rfl, ⟨nd, rfl⟩⟩; refine ⟨_, rfl, ?_⟩))
    (try simp only [Act.put, List.setIfInBounds_toArray, List.set_cons_zero, List.set_cons_succ])
    go_cut [6] (fun a5 wc => ∃ (kq : Nat) (I : ByteArray) (z : ByteArray) (A : ByteArray) (B : Int) (c : Int), a5 = .string I ∧ Aside0 (lockkeeperref3_Parse.j1 kq I M (⟨#[]⟩ : ByteArray) c = some (r1, r2, r3, r4)) ∧ Aside0 (kq ≤ k) ∧ Aside0 (wc.heap[n]? = some (.cells #[.string z, .string A, .int .i64 B] 70 (0, 0))) ∧ Aside0 (wc.heap[v]? = some (.cells #[.string M, .string ⟨#[]⟩, .int .i64 c] 70 (0, 0))) ∧ Aside0 (Below w.heap.size w wc))
    case first =>
     have H := a4.out; clear a4; have H' := Aside0.mk H; clear H; go_wp2
     go_loopg [6, 7] k (fun kq a5 v7s1 w' => ∃ (d : ByteArray) (r : Int) (i : ByteArray) (j : ByteArray) (l : Int) (m : Int), a5 = .string d ∧ v7s1 = .int .i64 r ∧ Aside0 (lockkeeperref3_Parse.l0 kq d r M (⟨#[]⟩ : ByteArray) m = some (r1, r2, r3, r4)) ∧ Aside0 (kq ≤ k) ∧ Aside0 (w'.heap[n]? = some (.cells #[.string i, .string j, .int .i64 l] 70 (0, 0))) ∧ Aside0 (w'.heap[v]? = some (.cells #[.string M, .string ⟨#[]⟩, .int .i64 m] 70 (0, 0))) ∧ Aside0 (Below w.heap.size w w'))
     case atStart => exact ⟨(Z.extract ((ji7) : Int).toNat Z.size), (0), ((⟨#[]⟩ : ByteArray)), ((⟨#[]⟩ : ByteArray)), (0), (t3), (by first | rfl | (simp; done) | (simp only [← D] <;> (first | rfl | simp)) | (simp [*]; done)), rS, H', ⟨Nat.le_refl _⟩, ⟨kT⟩, ⟨kT⟩, ⟨bE⟩⟩
     case round =>
      clear H'; (try clear c1); (try clear a1); (try clear a2); (try clear a3); (try clear au); (try clear av); (try clear aw); (try clear ax); (try clear ay); (try clear az); (try clear aA); (try clear aB); (try clear U); (try clear W); (try clear X); (try clear J); (try clear K); (try clear L); obtain ⟨d, r, i, j, l, m, rfl, rfl, HA, ah, a, b, HB⟩ := hrel
      cases gk with
      | zero => exact absurd HA.out (by simp [lockkeeperref3_Parse.l0])
      | succ k1 =>
       have H := HA.out; clear HA
       simp only [lockkeeperref3_Parse.l0] at H
       revert H; refine iteDD_ (fun y H => ?g4p) (fun y H => ?g4n)
       case' g4p =>
        (first | rw [y] | (simp only [i64_w, i32_w]; rw [y]) | skip); revert H; refine iteND_ fun c16b0 => iteEF_ (fun a6 a7 H => ?g5p) (fun c17 a6 a7 H => ?g5n)
        case' g5p =>
         generalize E : (wrap64 (r + 1)) = G at H; have hji18w := (i64_w _).trans E; revert H; refine iteNT_ fun c19b0 c19b1 => iteNT_ fun c20b0 c20b1 H => ?_; replace H := bd_ H; obtain ⟨⟨Y, t5⟩, A21, H⟩ := H; replace H : (if t5 = true then (if Y < 1 then (some ((⟨#[]⟩ : ByteArray), (⟨#[]⟩ : ByteArray), 0, 3)) else (if r ≤ (d.size : Int) then (lockkeeperref3_Parse.j1 k1 (d.extract 0 (r : Int).toNat) M (⟨#[]⟩ : ByteArray) (wrap64 (Y))) else (none))) else (some ((⟨#[]⟩ : ByteArray), (⟨#[]⟩ : ByteArray), 0, 3))) = some (r1, r2, r3, r4) := H; revert H; refine iteB_ (fun ai H => ?g6p) (fun ai H => ?g6n)
         case' g6p =>
          subst ai; revert H; refine iteDD_ (fun a8 H => ?g7p) (fun a8 H => ?g7n)
          case' g7p =>
           simp only [Option.some.injEq, Prod.mk.injEq] at H
           obtain ⟨rfl, rfl, rfl, rfl⟩ := H; obtain ⟨p24, q24, hx24⟩ := btf_ (s := d) (x := r) mE mE; have G8 := trivial; have a9 := trivial
          case' g7n =>
           have c24b0 := eq_true (of_decide_eq_true mE : 0 ≤ r); revert H; refine iteNT_ fun c25b0 c25b1 H => ?_; have H' := Aside0.mk H; clear H; obtain ⟨p26, q26, hx26⟩ := btf_ (s := d) (x := r) mE mE; have G9 := trivial; have aa := trivial; have M11_0 := trivial
         case' g6n =>
          subst ai
          simp only [Option.some.injEq, Prod.mk.injEq] at H
          obtain ⟨rfl, rfl, rfl, rfl⟩ := H; obtain ⟨p23, q23, hx23⟩ := btf_ (s := d) (x := r) mE mE; have a9 := trivial
        case' g5n =>
         have H' := Aside0.mk H; clear H; obtain ⟨p18, q18, hx18⟩ := btf_ (s := d) (x := r) mE mE; have M10_2 := trivial
       case' g4n =>
        (first | rw [y] | (simp only [i64_w, i32_w]; rw [y]) | skip); have H' := Aside0.mk H; clear H; have aa := trivial; have M11_1 := trivial
       all_goals
        go_wp2_with (first | (have z_ := G8; clear z_; ((with_reducible refine gate_callee (f := 109) rfl ?_); refine goesL_ (some 47) rfl rfl Tryz.func109 (by kernel_rfl) rfl #[.string (d.extract ((G) : Int).toNat d.size), .int .u64 65535] rfl (by (try simp only [List.map_toArray, List.map_cons, List.map_nil]); first | done | (simp only [E]; rfl) | rfl | (simp only [List.length_drop, List.length_take]; rfl)) ?_; (with_reducible refine (lockkeeperref1_Count.calls k1 (d.extract ((G) : Int).toNat d.size) 65535 Y true _ A21.out).mono ?_); rintro e w' ⟨rfl, ⟨nd, rfl⟩⟩; refine ⟨_, rfl, ?_⟩; (try (rw [drewN_self wr]; generalize hq_ : World.drewN wr _ = wr; have n0_ : Aside0 (wr.heap[n]? = some (.cells #[.string i, .string j, .int .i64 l] 70 (0, 0))) := ⟨by rw [← hq_]; exact (kC a)⟩; have n1_ : Aside0 (wr.heap[v]? = some (.cells #[.string M, .string ⟨#[]⟩, .int .i64 m] 70 (0, 0))) := ⟨by rw [← hq_]; exact (kC b)⟩; have n2_ : Aside0 (Below w.heap.size w wr) := ⟨by rw [← hq_]; exact bE⟩; clear a b HB hq_; have a := n0_; have b := n1_; have HB := n2_; clear n0_ n1_ n2_)); have aj := p.out; have ak := q.out; obtain ⟨al, am, an, ab, ac, ad⟩ := bk3_ a)) | (have z_ := G9; clear z_; ((with_reducible refine gate_callee (f := 109) rfl ?_); refine goesL_ (some 47) rfl rfl Tryz.func109 (by kernel_rfl) rfl #[.string (d.extract ((G) : Int).toNat d.size), .int .u64 65535] rfl (by (try simp only [List.map_toArray, List.map_cons, List.map_nil]); first | done | (simp only [E]; rfl) | rfl | (simp only [List.length_drop, List.length_take]; rfl)) ?_; (with_reducible refine (lockkeeperref1_Count.calls k1 (d.extract ((G) : Int).toNat d.size) 65535 Y true _ A21.out).mono ?_); rintro e w' ⟨rfl, ⟨nd, rfl⟩⟩; refine ⟨_, rfl, ?_⟩; (try (rw [drewN_self wr]; generalize hq_ : World.drewN wr _ = wr; have n0_ : Aside0 (wr.heap[n]? = some (.cells #[.string i, .string j, .int .i64 l] 70 (0, 0))) := ⟨by rw [← hq_]; exact (kC a)⟩; have n1_ : Aside0 (wr.heap[v]? = some (.cells #[.string M, .string ⟨#[]⟩, .int .i64 m] 70 (0, 0))) := ⟨by rw [← hq_]; exact (kC b)⟩; have n2_ : Aside0 (Below w.heap.size w wr) := ⟨by rw [← hq_]; exact bE⟩; clear a b HB hq_; have a := n0_; have b := n1_; have HB := n2_; clear n0_ n1_ n2_)); have aj := q.out; have ak := p.out; obtain ⟨al, am, an, ab, ac, ad⟩ := bk3_ b)) | ((with_reducible refine gate_callee (f := 109) rfl ?_); refine goesL_ (some 47) rfl rfl Tryz.func109 (by kernel_rfl) rfl #[.string (d.extract ((G) : Int).toNat d.size), .int .u64 65535] rfl (by (try simp only [List.map_toArray, List.map_cons, List.map_nil]); first | done | (simp only [E]; rfl) | rfl | (simp only [List.length_drop, List.length_take]; rfl)) ?_; (with_reducible refine (lockkeeperref1_Count.calls k1 (d.extract ((G) : Int).toNat d.size) 65535 Y false _ A21.out).mono ?_); rintro e w' ⟨rfl, ⟨nd, rfl⟩⟩; refine ⟨_, rfl, ?_⟩; (try (rw [drewN_self wr]; generalize hq_ : World.drewN wr _ = wr; have n0_ : Aside0 (wr.heap[n]? = some (.cells #[.string i, .string j, .int .i64 l] 70 (0, 0))) := ⟨by rw [← hq_]; exact (kC a)⟩; have n1_ : Aside0 (wr.heap[v]? = some (.cells #[.string M, .string ⟨#[]⟩, .int .i64 m] 70 (0, 0))) := ⟨by rw [← hq_]; exact (kC b)⟩; have n2_ : Aside0 (Below w.heap.size w wr) := ⟨by rw [← hq_]; exact bE⟩; clear a b HB hq_; have a := n0_; have b := n1_; have HB := n2_; clear n0_ n1_ n2_)); have hnb7a1 := p.out; have hnc7a1 := q.out; obtain ⟨z7a2_0, z7a2_1, z7a2_2, zf7a2_0, zf7a2_1, zf7a2_2⟩ := bk3_ a))
        first
        | clear a9
          refine bodyPost_ret (results_ct rfl _ _ n 70 #[.string ⟨#[]⟩, .string ⟨#[]⟩, .int .i64 0] (0, 0) _ rfl (kT) Tryz.underlying70 rfl (by kernel_rfl)) rfl ?_; exact ⟨by first | rfl | (simp [errW_none, errW_some] <;> rfl) | (simp only [← D, ← E]; first | rfl | (simp [errW_none, errW_some] <;> rfl)) | (simp [*, errW_none, errW_some] <;> rfl), bE⟩
        | clear aa
          go_meet
          first
          | clear M11_0
            case rel => exact ⟨_, (d.extract 0 (r : Int).toNat), (i), (j), (l), (wrap64 (Y)), rS, H', ⟨by have := ah.out; first | omega | exact Nat.le_refl _⟩, ⟨kT⟩, ⟨kT⟩, ⟨bE⟩⟩
          | clear M11_1
            case rel => exact ⟨_, (d), (i), (j), (l), (m), rS, H', ⟨by have := ah.out; first | omega | exact Nat.le_refl _⟩, ⟨kC a⟩, ⟨kC b⟩, ⟨bE⟩⟩
        | clear M10_2
          go_roundg k1
          case measure => have := ah.out; omega
          case rel => exact ⟨(d), (wrap64 (r + 1)), (i), (j), (l), (m), rS, rS, H', ⟨by have := ah.out; omega⟩, ⟨kC a⟩, ⟨kC b⟩, ⟨bE⟩⟩
    case rest =>
     clear a4; (try clear c1); (try clear a1); (try clear a2); (try clear a3); (try clear au); (try clear av); (try clear aw); (try clear ax); (try clear ay); (try clear az); (try clear aA); (try clear aB); (try clear y); (try clear c17); (try clear a6); (try clear a7); (try clear c19b0); (try clear c19b1); (try clear ai); (try clear a8); (try clear c24b0); (try clear U); (try clear W); (try clear X); (try clear J); (try clear K); (try clear L); obtain ⟨kq, I, z, A, B, c, rfl, HA, HJ15, a, b, HB⟩ := hcut
     cases kq with
     | zero => exact absurd HA.out (by simp [lockkeeperref3_Parse.j1])
     | succ aC =>
      have H := HA.out; clear HA
      simp only [lockkeeperref3_Parse.j1] at H
      replace H := bd_ H; obtain ⟨Y, A32, H⟩ := H; replace H := bd_ H; obtain ⟨t5, A33, H⟩ := H; revert H; refine iteB_ (fun c34 H => ?g12p) (fun c34 H => ?g12n)
      case' g12p =>
       subst c34
       simp only [Option.some.injEq, Prod.mk.injEq] at H
       obtain ⟨rfl, rfl, rfl, rfl⟩ := H; have G13 := trivial; have M15_0 := trivial
      case' g12n =>
       subst c34
       simp only [Option.some.injEq, Prod.mk.injEq] at H
       obtain ⟨rfl, rfl, rfl, rfl⟩ := H; have G14 := trivial; have M15_1 := trivial
      all_goals
       go_wp2_with (first | ((with_reducible refine gate_callee (f := 107) rfl ?_); refine gL _ Tryz.func107 _ ((lockkeeperref1_Lower.calls I _ _ A32.out).mono ?_); rintro e w8a1 ⟨rfl, hb⟩; refine ⟨_, rfl, ?_⟩; replace a := kM a hb; replace b := kM b hb; replace HB := bS bE hb; (try clear hb); have hnb8a2 := q.out; have hnc8a2 := p.out; obtain ⟨z8a3_0, z8a3_1, z8a3_2, zf8a3_0, zf8a3_1, zf8a3_2⟩ := bk3_ b) | (have z_ := G13; clear z_; ((with_reducible refine gate_callee (f := 110) rfl ?_); refine gL _ Tryz.func110 _ ((lockkeeperref3_Check.calls aC M Y c _ _ A33.out).mono ?_); rintro e w9a1 ⟨rfl, hb⟩; refine ⟨_, rfl, ?_⟩; have n0_ := kF a hb; have n1_ := Aside0.mk (blk_below (g := v) (o := .cells #[.string M, .string Y, .int .i64 c] 70 (0, 0)) (kT) hb); have n2_ := bS bE hb; clear a; clear b; clear HB; have a := n0_; have b := n1_; have HB := n2_; clear n0_ n1_ n2_; (try clear hb); (try clear hb1); (try clear hk); (try clear hi); obtain ⟨ao, ap, aq, ae, af, ag⟩ := bk3_ b; obtain ⟨z9a3_0, z9a3_1, z9a3_2, zf9a3_0, zf9a3_1, zf9a3_2⟩ := bk3_ a)) | (have z_ := G14; clear z_; ((with_reducible refine gate_callee (f := 110) rfl ?_); refine gL _ Tryz.func110 _ ((lockkeeperref3_Check.calls aC M Y c _ _ A33.out).mono ?_); rintro e w9a1 ⟨rfl, hb⟩; refine ⟨_, rfl, ?_⟩; have n0_ := kF a hb; have n1_ := Aside0.mk (blk_below (g := v) (o := .cells #[.string M, .string Y, .int .i64 c] 70 (0, 0)) (kT) hb); have n2_ := bS bE hb; clear a; clear b; clear HB; have a := n0_; have b := n1_; have HB := n2_; clear n0_ n1_ n2_; (try clear hb); (try clear hb1); (try clear hk); (try clear hi); obtain ⟨ao, ap, aq, ae, af, ag⟩ := bk3_ a)))
       first
       | clear M15_0
         refine bodyPost_ret (results_ct rfl _ _ n 70 #[.string M, .string Y, .int .i64 c] (0, 0) _ rfl (kT) Tryz.underlying70 rfl (by kernel_rfl)) rfl ?_; exact ⟨by first | rfl | (simp [errW_none, errW_some] <;> rfl) | (simp only [← D]; first | rfl | (simp [errW_none, errW_some] <;> rfl)) | (simp [*, errW_none, errW_some] <;> rfl), bE⟩
       | clear M15_1
         refine bodyPost_ret (results_ct rfl _ _ n 70 #[.string ⟨#[]⟩, .string ⟨#[]⟩, .int .i64 0] (0, 0) _ rfl (kT) Tryz.underlying70 rfl (by kernel_rfl)) rfl ?_; exact ⟨by first | rfl | (simp [errW_none, errW_some] <;> rfl) | (simp only [← D]; first | rfl | (simp [errW_none, errW_some] <;> rfl)) | (simp [*, errW_none, errW_some] <;> rfl), bE⟩
def lockkeeperref3_Show.f (k : Nat) (a b : ByteArray) (c : Int) : Option (ByteArray) := (lockkeeperref3_Check.f k a b c).bind fun e => (if e = true then (if a.size + 3 ≤ 9223372036854775807 then (if (a ++ (⟨#[58, 47, 47]⟩ : ByteArray)).size + b.size ≤ 9223372036854775807 then ((lockkeeperref3_Default.f a).bind fun g => (if c = g then (some ((a ++ (⟨#[58, 47, 47]⟩ : ByteArray)) ++ b)) else (if ((a ++ (⟨#[58, 47, 47]⟩ : ByteArray)) ++ b).size + 1 ≤ 9223372036854775807 then ((lockkeeperref1_Num.f k (IntKind.u64.wrap (c))).bind fun d => (if (((a ++ (⟨#[58, 47, 47]⟩ : ByteArray)) ++ b) ++ (⟨#[58]⟩ : ByteArray)).size + d.size ≤ 9223372036854775807 then (some ((((a ++ (⟨#[58, 47, 47]⟩ : ByteArray)) ++ b) ++ (⟨#[58]⟩ : ByteArray)) ++ d)) else (none))) else (none)))) else (none)) else (none)) else (some (⟨#[]⟩ : ByteArray)))
theorem lockkeeperref3_Show.mono : ∀ a b c k, LeO (lockkeeperref3_Show.f k a b c) (lockkeeperref3_Show.f (k + 1) a b c) := by
 intro a b c k
 have d := @lockkeeperref1_Num.mono; have e := @lockkeeperref3_Check.mono; unfold lockkeeperref3_Show.f
 exact moE
theorem lockkeeperref3_Show.calls (k : Nat) (b c : ByteArray) (d : Int) (r : ByteArray) (w : World) (h : lockkeeperref3_Show.f k b c d = some r) :
  Calls Tryz.prog 63 #[.agg #[.string b, .string c, .int .i64 d]] w fun e w' => e = .returned (.string r) ∧ Below w.heap.size w w' := by
 have Z := Tryz.underlying70; have HB := Aside0.mk (Below.refl w.heap.size w); have H := h; clear h; unfold lockkeeperref3_Show.f at H; replace H := bd_ H; obtain ⟨t1, O, H⟩ := H; revert H; refine iteB_ (fun U H => ?g1p) (fun U H => ?g1n)
 case' g1p =>
  subst U; revert H; refine iteNP_ fun W H => ?_; have a0 := eq_true W; have a1 := decide_eq_true W
  try have a2 : (9223372036854775807 < b.size + 3) = False := eq_false (Nat.not_lt.2 W)
  revert H; refine iteNP_ fun D H => ?_
  try (have E := D; simp only [ByteArray.size_append, Int.natCast_add] at E)
  have a3 := eq_true D; have a4 := decide_eq_true D
  try have a5 : (9223372036854775807 < (b ++ (⟨#[58, 47, 47]⟩ : ByteArray)).size + c.size) = False := eq_false (Nat.not_lt.2 D)
  try have a6 : (9223372036854775807 < b.size + 3 + c.size) = False := eq_false (Nat.not_lt.2 (by have z_ := D; simp only [ByteArray.size_append] at z_; first | exact z_ | simpa using z_))
  replace H := bd_ H; obtain ⟨t2, X, H⟩ := H; revert H; refine iteEF_ (fun G I H => ?g2p) (fun c6 G I H => ?g2n)
  case' g2p =>
   obtain rfl := si_ H
  case' g2n =>
   revert H; refine iteNP_ fun J H => ?_
   try (have K := J; simp only [ByteArray.size_append, Int.natCast_add] at K)
   have a7 := eq_true J; have a8 := decide_eq_true J
   try have a9 : (9223372036854775807 < ((b ++ (⟨#[58, 47, 47]⟩ : ByteArray)) ++ c).size + 1) = False := eq_false (Nat.not_lt.2 J)
   try have aa : (9223372036854775807 < b.size + 3 + c.size + 1) = False := eq_false (Nat.not_lt.2 (by have z_ := J; simp only [ByteArray.size_append] at z_; first | exact z_ | simpa using z_))
   replace H := bd_ H; obtain ⟨t3, Y, H⟩ := H; revert H; refine iteNP_ fun L H => ?_
   try (have M := L; simp only [ByteArray.size_append, Int.natCast_add] at M)
   have c9b0 := eq_true L; have c9b1 := decide_eq_true L
   try have c9b2 : (9223372036854775807 < (((b ++ (⟨#[58, 47, 47]⟩ : ByteArray)) ++ c) ++ (⟨#[58]⟩ : ByteArray)).size + t3.size) = False := eq_false (Nat.not_lt.2 L)
   try have c9b3 : (9223372036854775807 < b.size + 3 + c.size + 1 + t3.size) = False := eq_false (Nat.not_lt.2 (by have z_ := L; simp only [ByteArray.size_append] at z_; first | exact z_ | simpa using z_))
   obtain rfl := si_ H
 case' g1n =>
  subst U; obtain rfl := si_ H
 all_goals
  go_enter Tryz.func63, Tryz.ntmps63; go_wp2_with (first | ((with_reducible refine gate_dst (N := 1) rfl ?_); refine bxE (N := 1) (cs := #[.string b, .string c, .int .i64 d]) (t := 70) fun y hg A hbox hb => ?_; obtain ⟨HB', a, g⟩ := bx_ bE hg hbox hb; have z := g; clear HB hb hbox hg; have HB := HB'; clear HB'; obtain ⟨p, q, s, i, j, l⟩ := bk3_ a) | (go_at_call 110; (with_reducible refine (lockkeeperref3_Check.calls k b c d _ _ O.out).mono ?_); rintro e B ⟨rfl, hb⟩; replace a := kM a hb; replace HB := bS bE hb; (try clear hb); obtain ⟨u, v, x, m, n, o⟩ := bk3_ a) | (go_at_call 108; (with_reducible refine (lockkeeperref3_Default.calls b _ _ X.out).mono ?_); rintro e w' ⟨rfl, ⟨nd, rfl⟩⟩; (try first | exact ⟨rfl, _, World.drewN_drewN _ _ _⟩ | exact ⟨rfl, _, Eq.trans (World.drewN_drewN _ _ _) (congrArg (World.drewN _) (Nat.add_assoc _ _ _))⟩)) | (go_at_call 120; (with_reducible refine (lockkeeperref1_Num.calls k (IntKind.u64.wrap (d)) _ _ Y.out).mono ?_); rintro e w' ⟨rfl, ⟨nd, rfl⟩⟩; (try first | exact ⟨rfl, _, World.drewN_drewN _ _ _⟩ | exact ⟨rfl, _, Eq.trans (World.drewN_drewN _ _ _) (congrArg (World.drewN _) (Nat.add_assoc _ _ _))⟩)))
  repeat (go_quiet (first | ((with_reducible refine gate_dst (N := 1) rfl ?_); refine bxE (N := 1) (cs := #[.string b, .string c, .int .i64 d]) (t := 70) fun y hg A hbox hb => ?_; obtain ⟨HB', a, g⟩ := bx_ bE hg hbox hb; have z := g; clear HB hb hbox hg; have HB := HB'; clear HB'; obtain ⟨p, q, s, i, j, l⟩ := bk3_ a) | (go_at_call 110; (with_reducible refine (lockkeeperref3_Check.calls k b c d _ _ O.out).mono ?_); rintro e B ⟨rfl, hb⟩; replace a := kM a hb; replace HB := bS bE hb; (try clear hb); obtain ⟨u, v, x, m, n, o⟩ := bk3_ a) | (go_at_call 108; (with_reducible refine (lockkeeperref3_Default.calls b _ _ X.out).mono ?_); rintro e w' ⟨rfl, ⟨nd, rfl⟩⟩; (try first | exact ⟨rfl, _, World.drewN_drewN _ _ _⟩ | exact ⟨rfl, _, Eq.trans (World.drewN_drewN _ _ _) (congrArg (World.drewN _) (Nat.add_assoc _ _ _))⟩)) | (go_at_call 120; (with_reducible refine (lockkeeperref1_Num.calls k (IntKind.u64.wrap (d)) _ _ Y.out).mono ?_); rintro e w' ⟨rfl, ⟨nd, rfl⟩⟩; (try first | exact ⟨rfl, _, World.drewN_drewN _ _ _⟩ | exact ⟨rfl, _, Eq.trans (World.drewN_drewN _ _ _) (congrArg (World.drewN _) (Nat.add_assoc _ _ _))⟩))); try go_wp2_with (first | ((with_reducible refine gate_dst (N := 1) rfl ?_); refine bxE (N := 1) (cs := #[.string b, .string c, .int .i64 d]) (t := 70) fun y hg A hbox hb => ?_; obtain ⟨HB', a, g⟩ := bx_ bE hg hbox hb; have z := g; clear HB hb hbox hg; have HB := HB'; clear HB'; obtain ⟨p, q, s, i, j, l⟩ := bk3_ a) | (go_at_call 110; (with_reducible refine (lockkeeperref3_Check.calls k b c d _ _ O.out).mono ?_); rintro e B ⟨rfl, hb⟩; replace a := kM a hb; replace HB := bS bE hb; (try clear hb); obtain ⟨u, v, x, m, n, o⟩ := bk3_ a) | (go_at_call 108; (with_reducible refine (lockkeeperref3_Default.calls b _ _ X.out).mono ?_); rintro e w' ⟨rfl, ⟨nd, rfl⟩⟩; (try first | exact ⟨rfl, _, World.drewN_drewN _ _ _⟩ | exact ⟨rfl, _, Eq.trans (World.drewN_drewN _ _ _) (congrArg (World.drewN _) (Nat.add_assoc _ _ _))⟩)) | (go_at_call 120; (with_reducible refine (lockkeeperref1_Num.calls k (IntKind.u64.wrap (d)) _ _ Y.out).mono ?_); rintro e w' ⟨rfl, ⟨nd, rfl⟩⟩; (try first | exact ⟨rfl, _, World.drewN_drewN _ _ _⟩ | exact ⟨rfl, _, Eq.trans (World.drewN_drewN _ _ _) (congrArg (World.drewN _) (Nat.add_assoc _ _ _))⟩))))
  go_ret; exact ⟨rE, bE⟩
def lockkeeperref1_In.l0 : Nat → Int → ByteArray → Int → Option (Bool)
 | 0, _, _, _ => none
 | k + 1, c, b, a => if a < (b.size : Int) then (if 0 ≤ a then (if (bt b a) = c then (some true) else (lockkeeperref1_In.l0 k c b (wrap64 (a + 1)))) else (none)) else (some false)
def lockkeeperref1_In.f (k : Nat) (a : Int) (b : ByteArray) : Option (Bool) := lockkeeperref1_In.l0 k a b 0
theorem lockkeeperref1_In.mono_l : ∀ k, (∀ a b c, LeO (lockkeeperref1_In.l0 k a b c) (lockkeeperref1_In.l0 (k + 1) a b c))
 | 0 => fun _ _ _ r h => by simp [lockkeeperref1_In.l0] at h
 | k + 1 => by
  have ih0 := lockkeeperref1_In.mono_l k
  ·intros
   unfold lockkeeperref1_In.l0
   exact moE
theorem lockkeeperref1_In.mono : ∀ a b k, LeO (lockkeeperref1_In.f k a b) (lockkeeperref1_In.f (k + 1) a b) := by
 intro a b k
 have ih0 := lockkeeperref1_In.mono_l k
 unfold lockkeeperref1_In.f
 exact moE
theorem lockkeeperref1_In.calls (k : Nat) (n : Int) (c : ByteArray) (r : Bool) (w : World) (h : lockkeeperref1_In.f k n c = some r) :
  Calls Tryz.prog 114 #[.int .u8 n, .string c] w fun e w' => e = .returned (.bool r) ∧ Drawn0 w w' := by
 have H : (lockkeeperref1_In.l0 k n c 0) = some r := h; clear h; have H' := Aside0.mk H; clear H; go_enter Tryz.func114, Tryz.ntmps114; go_wp2
 go_loopg [5] k (fun kq d w' => ∃ (a : Int), d = .int .i64 a ∧ Aside0 (lockkeeperref1_In.l0 kq n c a = some r) ∧ Aside0 (kq ≤ k) ∧ Drawn0 w w')
 case atStart => exact ⟨(0), rS, H', ⟨Nat.le_refl _⟩, dE⟩
 case round =>
  clear H'; obtain ⟨a, rfl, HA, g, ⟨u, rfl⟩⟩ := hrel
  cases gk with
  | zero => exact absurd HA.out (by simp [lockkeeperref1_In.l0])
  | succ k1 =>
   have H := HA.out; clear HA
   simp only [lockkeeperref1_In.l0] at H
   revert H; refine iteDD_ (fun i H => ?g1p) (fun i H => ?g1n)
   case' g1p =>
    revert H; refine iteND_ fun p => iteEF_ (fun j l H => ?g2p) (fun v j l H => ?g2n)
    case' g2p =>
     obtain rfl := si_ H; obtain ⟨q, t, o⟩ := btf_ (s := c) (x := a) mE mE; have b := trivial
    case' g2n =>
     have H' := Aside0.mk H; clear H; obtain ⟨q, t, o⟩ := btf_ (s := c) (x := a) mE mE; have m := trivial
   case' g1n =>
    obtain rfl := si_ H; have b := trivial
   all_goals
    go_wp2
    first
    | clear b
      go_ret; exact ⟨rS, dE⟩
    | clear m
      go_roundg k1
      case measure => have := g.out; omega
      case rel => exact ⟨(wrap64 (a + 1)), rS, H', ⟨by have := g.out; omega⟩, dE⟩
def lockkeeperref4_first.l0 : Nat → ByteArray → ByteArray → Int → Option (Int)
 | 0, _, _, _ => none
 | k + 1, c, d, a => if a < (c.size : Int) then (if 0 ≤ a then ((lockkeeperref1_In.f k (bt c a) d).bind fun b => (if b = true then (some a) else (lockkeeperref4_first.l0 k c d (wrap64 (a + 1))))) else (none)) else (some a)
def lockkeeperref4_first.f (k : Nat) (a : ByteArray) (b : Int) (c : ByteArray) : Option (Int) := lockkeeperref4_first.l0 k a c b
theorem lockkeeperref4_first.mono_l : ∀ k, (∀ a b c, LeO (lockkeeperref4_first.l0 k a b c) (lockkeeperref4_first.l0 (k + 1) a b c))
 | 0 => fun _ _ _ r h => by simp [lockkeeperref4_first.l0] at h
 | k + 1 => by
  have ih0 := lockkeeperref4_first.mono_l k
  ·intros
   have d := @lockkeeperref1_In.mono; unfold lockkeeperref4_first.l0
   exact moE
theorem lockkeeperref4_first.mono : ∀ a b c k, LeO (lockkeeperref4_first.f k a b c) (lockkeeperref4_first.f (k + 1) a b c) := by
 intro a b c k
 have ih0 := lockkeeperref4_first.mono_l k
 have d := @lockkeeperref1_In.mono; unfold lockkeeperref4_first.f
 exact moE
theorem lockkeeperref4_first.calls (k : Nat) (c : ByteArray) (m : Int) (d : ByteArray) (r : Int) (w : World) (h : lockkeeperref4_first.f k c m d = some r) :
  Calls Tryz.prog 102 #[.string c, .int .i64 m, .string d] w fun e w' => e = .returned (.int .i64 r) ∧ Drawn0 w w' := by
 have H : (lockkeeperref4_first.l0 k c d m) = some r := h; clear h; have H' := Aside0.mk H; clear H; go_enter Tryz.func102, Tryz.ntmps102; go_wp2
 go_loopg [7] k (fun kq g w' => ∃ (a : Int), g = .int .i64 a ∧ Aside0 (lockkeeperref4_first.l0 kq c d a = some r) ∧ Aside0 (kq ≤ k) ∧ Drawn0 w w')
 case atStart => exact ⟨(m), rS, H', ⟨Nat.le_refl _⟩, dE⟩
 case round =>
  clear H'; obtain ⟨a, rfl, HA, i, ⟨v, rfl⟩⟩ := hrel
  cases gk with
  | zero => exact absurd HA.out (by simp [lockkeeperref4_first.l0])
  | succ k1 =>
   have H := HA.out; clear HA
   simp only [lockkeeperref4_first.l0] at H
   revert H; refine iteDD_ (fun j H => ?g1p) (fun j H => ?g1n)
   case' g1p =>
    revert H; refine iteND_ fun p H => ?_; replace H := bd_ H; obtain ⟨y, q, H⟩ := H; revert H; refine iteB_ (fun n H => ?g2p) (fun n H => ?g2n)
    case' g2p =>
     subst n; obtain rfl := si_ H; obtain ⟨t, u, o⟩ := btf_ (s := c) (x := a) mE mE; have b := trivial
    case' g2n =>
     subst n; have H' := Aside0.mk H; clear H; obtain ⟨t, u, o⟩ := btf_ (s := c) (x := a) mE mE; have l := trivial
   case' g1n =>
    obtain rfl := si_ H; have b := trivial
   all_goals
    go_wp2_with (first | (go_at_call 114; (with_reducible refine (lockkeeperref1_In.calls k1 (bt c a) d _ _ q.out).mono ?_); rintro e w' ⟨rfl, ⟨nd, rfl⟩⟩))
    first
    | clear b
      go_ret; exact ⟨rS, dE⟩
    | clear l
      go_roundg k1
      case measure => have := i.out; omega
      case rel => exact ⟨(wrap64 (a + 1)), rS, H', ⟨by have := i.out; omega⟩, dE⟩
def lockkeeperref4_byteOf.f (k : Nat) (b : Int) (c : ByteArray) : Option (Bool) := if b ≥ 33 then (if b ≤ 126 then ((lockkeeperref1_In.f k b c).bind fun a => (some (!a))) else (some false)) else (some false)
theorem lockkeeperref4_byteOf.mono : ∀ a b k, LeO (lockkeeperref4_byteOf.f k a b) (lockkeeperref4_byteOf.f (k + 1) a b) := by
 intro a b k
 have c := @lockkeeperref1_In.mono; unfold lockkeeperref4_byteOf.f
 exact moE
theorem lockkeeperref4_byteOf.calls (k : Nat) (c : Int) (d : ByteArray) (r : Bool) (w : World) (h : lockkeeperref4_byteOf.f k c d = some r) :
  Calls Tryz.prog 149 #[.int .u8 c, .string d] w fun e w' => e = .returned (.bool r) ∧ Drawn0 w w' := by
 have H := h; clear h; unfold lockkeeperref4_byteOf.f at H; revert H; refine iteJJ_ (fun a H => ?g1p) (fun a H => ?g1n)
 case' g1p =>
  revert H; refine iteDD_ (fun b H => ?g2p) (fun b H => ?g2n)
  case' g2p =>
   replace H := bd_ H; obtain ⟨i, g, H⟩ := H; obtain rfl := si_ H
  case' g2n =>
   obtain rfl := si_ H
 case' g1n =>
  obtain rfl := si_ H
 all_goals
  go_enter Tryz.func149, Tryz.ntmps149; go_wp2_with (first | (go_at_call 114; (with_reducible refine (lockkeeperref1_In.calls k c d _ _ g.out).mono ?_); rintro e w' ⟨rfl, ⟨nd, rfl⟩⟩)); go_ret; exact ⟨rS, dE⟩
def lockkeeperref1_Plain.f (a : Int) : Option (Bool) := if a ≥ 97 then (if a ≤ 122 then (some true) else (if a ≥ 65 then (if a ≤ 90 then (some true) else (if a ≥ 48 then (some (decide (a ≤ 57))) else (some false))) else (if a ≥ 48 then (some (decide (a ≤ 57))) else (some false)))) else (if a ≥ 65 then (if a ≤ 90 then (some true) else (if a ≥ 48 then (some (decide (a ≤ 57))) else (some false))) else (if a ≥ 48 then (some (decide (a ≤ 57))) else (some false)))
theorem lockkeeperref1_Plain.calls (i : Int) (r : Bool) (w : World) (h : lockkeeperref1_Plain.f i = some r) :
  Calls Tryz.prog 153 #[.int .u8 i] w fun e w' => e = .returned (.bool r) ∧ Drawn0 w w' := by
 have H := h; clear h; unfold lockkeeperref1_Plain.f at H; revert H; refine iteJJ_ (fun d H => ?g1p) (fun d H => ?g1n)
 case' g1p =>
  revert H; refine iteDD_ (fun c H => ?g2p) (fun c H => ?g2n)
  case' g2p =>
   obtain rfl := si_ H
  case' g2n =>
   revert H; refine iteJJ_ (fun a H => ?g3p) (fun a H => ?g3n)
   case' g3p =>
    revert H; refine iteDD_ (fun b H => ?g4p) (fun b H => ?g4n)
    case' g4p =>
     obtain rfl := si_ H
    case' g4n =>
     revert H; refine iteJJ_ (fun g H => ?g5p) (fun g H => ?g5n)
     case' g5p =>
      obtain rfl := si_ H
     case' g5n =>
      obtain rfl := si_ H
   case' g3n =>
    revert H; refine iteJJ_ (fun b H => ?g6p) (fun b H => ?g6n)
    case' g6p =>
     obtain rfl := si_ H
    case' g6n =>
     obtain rfl := si_ H
 case' g1n =>
  revert H; refine iteJJ_ (fun c H => ?g7p) (fun c H => ?g7n)
  case' g7p =>
   revert H; refine iteDD_ (fun a H => ?g8p) (fun a H => ?g8n)
   case' g8p =>
    obtain rfl := si_ H
   case' g8n =>
    revert H; refine iteJJ_ (fun b H => ?g9p) (fun b H => ?g9n)
    case' g9p =>
     obtain rfl := si_ H
    case' g9n =>
     obtain rfl := si_ H
  case' g7n =>
   revert H; refine iteJJ_ (fun a H => ?g10p) (fun a H => ?g10n)
   case' g10p =>
    obtain rfl := si_ H
   case' g10n =>
    obtain rfl := si_ H
 all_goals
  go_enter Tryz.func153, Tryz.ntmps153; go_wp2; go_ret; exact ⟨rS, dE⟩
def lockkeeperref1_Token.l0 : Nat → ByteArray → Int → Option (Bool)
 | 0, _, _ => none
 | k + 1, a, b => if b < (a.size : Int) then (if 0 ≤ b then ((lockkeeperref1_Plain.f (bt a b)).bind fun c => (if c = true then (lockkeeperref1_Token.l0 k a (wrap64 (b + 1))) else ((lockkeeperref1_In.f k (bt a b) (⟨#[33, 35, 36, 37, 38, 39, 42, 43, 45, 46, 94, 95, 124, 126]⟩ : ByteArray)).bind fun d => (if d = true then (lockkeeperref1_Token.l0 k a (wrap64 (b + 1))) else (if (bt a b) = 96 then (lockkeeperref1_Token.l0 k a (wrap64 (b + 1))) else (some false)))))) else (none)) else (some (decide ((a.size : Int) > 0)))
def lockkeeperref1_Token.f (k : Nat) (a : ByteArray) : Option (Bool) := lockkeeperref1_Token.l0 k a 0
theorem lockkeeperref1_Token.mono_l : ∀ k, (∀ a b, LeO (lockkeeperref1_Token.l0 k a b) (lockkeeperref1_Token.l0 (k + 1) a b))
 | 0 => fun _ _ r h => by simp [lockkeeperref1_Token.l0] at h
 | k + 1 => by
  have ih0 := lockkeeperref1_Token.mono_l k
  ·intros
   have c := @lockkeeperref1_In.mono; unfold lockkeeperref1_Token.l0
   exact moE
theorem lockkeeperref1_Token.mono : ∀ a k, LeO (lockkeeperref1_Token.f k a) (lockkeeperref1_Token.f (k + 1) a) := by
 intro a k
 have ih0 := lockkeeperref1_Token.mono_l k
 have b := @lockkeeperref1_In.mono; unfold lockkeeperref1_Token.f
 exact moE
theorem lockkeeperref1_Token.calls (k : Nat) (b : ByteArray) (r : Bool) (w : World) (h : lockkeeperref1_Token.f k b = some r) :
  Calls Tryz.prog 111 #[.string b] w fun e w' => e = .returned (.bool r) ∧ Drawn0 w w' := by
 have H : (lockkeeperref1_Token.l0 k b 0) = some r := h; clear h; have H' := Aside0.mk H; clear H; go_enter Tryz.func111, Tryz.ntmps111; go_wp2
 go_loopg [3] k (fun kq m w' => ∃ (a : Int), m = .int .i64 a ∧ Aside0 (lockkeeperref1_Token.l0 kq b a = some r) ∧ Aside0 (kq ≤ k) ∧ Drawn0 w w')
 case atStart => exact ⟨(0), rS, H', ⟨Nat.le_refl _⟩, dE⟩
 case round =>
  clear H'; obtain ⟨a, rfl, HA, n, ⟨K, rfl⟩⟩ := hrel
  cases gk with
  | zero => exact absurd HA.out (by simp [lockkeeperref1_Token.l0])
  | succ k1 =>
   have H := HA.out; clear HA
   simp only [lockkeeperref1_Token.l0] at H
   revert H; refine iteDD_ (fun o H => ?g1p) (fun o H => ?g1n)
   case' g1p =>
    revert H; refine iteND_ fun A H => ?_; replace H := bd_ H; obtain ⟨L, B, H⟩ := H; revert H; refine iteB_ (fun t H => ?g2p) (fun t H => ?g2n)
    case' g2p =>
     subst t; have H' := Aside0.mk H; clear H; obtain ⟨M, O, E⟩ := btf_ (s := b) (x := a) mE mE; have G6 := trivial; have c := trivial
    case' g2n =>
     subst t; replace H := bd_ H; obtain ⟨U, D, H⟩ := H; revert H; refine iteB_ (fun u H => ?g3p) (fun u H => ?g3n)
     case' g3p =>
      subst u; have H' := Aside0.mk H; clear H; obtain ⟨W, X, G⟩ := btf_ (s := b) (x := a) mE mE; have G5 := trivial; have G8 := trivial; have c := trivial
     case' g3n =>
      subst u; revert H; refine iteEF_ (fun p q H => ?g4p) (fun Y p q H => ?g4n)
      case' g4p =>
       have H' := Aside0.mk H; clear H; obtain ⟨I, J, v⟩ := btf_ (s := b) (x := a) mE mE; have G5 := trivial; have G7 := trivial; have c := trivial
      case' g4n =>
       obtain rfl := si_ H; obtain ⟨I, J, v⟩ := btf_ (s := b) (x := a) mE mE; have G5 := trivial; have G7 := trivial; have d := trivial
   case' g1n =>
    obtain rfl := si_ H; have d := trivial
   all_goals
    go_wp2_with (first | (have z_ := G5; clear z_; ((with_reducible refine gate_callee (f := 153) rfl ?_); refine gL _ Tryz.func153 _ ((lockkeeperref1_Plain.calls (bt b a) _ _ B.out).mono ?_); rintro e w' ⟨rfl, ⟨nd, rfl⟩⟩; refine ⟨_, rfl, ?_⟩; have g : 0 ≤ (a : Int) := of_decide_eq_true mE; have i : a < (b.size : Int) := of_decide_eq_true mE; have y := bt_at b a; replace g := eq_true g; replace i := eq_true i)) | (have z_ := G6; clear z_; ((with_reducible refine gate_callee (f := 153) rfl ?_); refine gL _ Tryz.func153 _ ((lockkeeperref1_Plain.calls (bt b a) _ _ B.out).mono ?_); rintro e w' ⟨rfl, ⟨nd, rfl⟩⟩; refine ⟨_, rfl, ?_⟩)) | (have z_ := G7; clear z_; (go_at_call 114; (with_reducible refine (lockkeeperref1_In.calls k1 (bt b a) (⟨#[33, 35, 36, 37, 38, 39, 42, 43, 45, 46, 94, 95, 124, 126]⟩ : ByteArray) _ _ D.out).mono ?_); rintro e w' ⟨rfl, ⟨nd, rfl⟩⟩; have j : 0 ≤ (a : Int) := of_decide_eq_true mE; have l : a < (b.size : Int) := of_decide_eq_true mE; have z := bt_at b a; replace j := eq_true j; replace l := eq_true l)) | (have z_ := G8; clear z_; (go_at_call 114; (with_reducible refine (lockkeeperref1_In.calls k1 (bt b a) (⟨#[33, 35, 36, 37, 38, 39, 42, 43, 45, 46, 94, 95, 124, 126]⟩ : ByteArray) _ _ D.out).mono ?_); rintro e w' ⟨rfl, ⟨nd, rfl⟩⟩)))
    first
    | clear c
      go_roundg k1
      case measure => have := n.out; omega
      case rel => exact ⟨(wrap64 (a + 1)), rS, H', ⟨by have := n.out; omega⟩, dE⟩
    | clear d
      go_ret; exact ⟨rS, dE⟩
def lockkeeperref1_Fold.f (c d : ByteArray) : Option (Bool) := (lockkeeperref1_Lower.f c).bind fun a => ((lockkeeperref1_Lower.f d).bind fun b => (some (a.toList == b.toList)))
theorem lockkeeperref1_Fold.calls (a b : ByteArray) (r : Bool) (w : World) (h : lockkeeperref1_Fold.f a b = some r) :
  Calls Tryz.prog 118 #[.string a, .string b] w fun e w' => e = .returned (.bool r) ∧ Below w.heap.size w w' := by
 have HB := Aside0.mk (Below.refl w.heap.size w); have H := h; clear h; unfold lockkeeperref1_Fold.f at H; replace H := bd_ H; obtain ⟨g, i, H⟩ := H; replace H := bd_ H; obtain ⟨j, l, H⟩ := H; obtain rfl := si_ H; go_enter Tryz.func118, Tryz.ntmps118; go_wp2_with (first | ((with_reducible refine gate_callee (f := 107) rfl ?_); refine gL _ Tryz.func107 _ ((lockkeeperref1_Lower.calls a g _ i.out).mono ?_); rintro e c ⟨rfl, hb⟩; refine ⟨_, rfl, ?_⟩; replace HB := bS bE hb; (try clear hb)) | ((with_reducible refine gate_callee (f := 107) rfl ?_); refine gL _ Tryz.func107 _ ((lockkeeperref1_Lower.calls b j _ l.out).mono ?_); rintro e d ⟨rfl, hb⟩; refine ⟨_, rfl, ?_⟩; replace HB := bS bE hb; (try clear hb))); go_ret; exact ⟨rE, bE⟩
def lockkeeperref5_Bars.f (d : ByteArray) : Option (Bool) := (lockkeeperref1_Fold.f d (⟨#[67, 79, 78, 78, 69, 67, 84]⟩ : ByteArray)).bind fun a => (if a = true then (some true) else ((lockkeeperref1_Fold.f d (⟨#[84, 82, 65, 67, 69]⟩ : ByteArray)).bind fun b => (if b = true then (some true) else ((lockkeeperref1_Fold.f d (⟨#[84, 82, 65, 67, 75]⟩ : ByteArray)).bind fun c => (some c)))))
theorem lockkeeperref5_Bars.calls (a : ByteArray) (r : Bool) (w : World) (h : lockkeeperref5_Bars.f a = some r) :
  Calls Tryz.prog 112 #[.string a] w fun e w' => e = .returned (.bool r) ∧ Below w.heap.size w w' := by
 have HB := Aside0.mk (Below.refl w.heap.size w); have H := h; clear h; unfold lockkeeperref5_Bars.f at H; replace H := bd_ H; obtain ⟨n, j, H⟩ := H; revert H; refine iteB_ (fun b H => ?g1p) (fun b H => ?g1n)
 case' g1p =>
  subst b; obtain rfl := si_ H
 case' g1n =>
  subst b; replace H := bd_ H; obtain ⟨o, l, H⟩ := H; revert H; refine iteB_ (fun c H => ?g2p) (fun c H => ?g2n)
  case' g2p =>
   subst c; obtain rfl := si_ H
  case' g2n =>
   subst c; replace H := bd_ H; obtain ⟨p, m, H⟩ := H; obtain rfl := si_ H
 all_goals
  go_enter Tryz.func112, Tryz.ntmps112; go_wp2_with (first | ((with_reducible refine gate_callee (f := 118) rfl ?_); refine gL _ Tryz.func118 _ ((lockkeeperref1_Fold.calls a (⟨#[67, 79, 78, 78, 69, 67, 84]⟩ : ByteArray) _ _ j.out).mono ?_); rintro e d ⟨rfl, hb⟩; refine ⟨_, rfl, ?_⟩; replace HB := bS bE hb; (try clear hb)) | (go_at_call 118; (with_reducible refine (lockkeeperref1_Fold.calls a (⟨#[84, 82, 65, 67, 69]⟩ : ByteArray) _ _ l.out).mono ?_); rintro e g ⟨rfl, hb⟩; replace HB := bS bE hb; (try clear hb)) | (go_at_call 118; (with_reducible refine (lockkeeperref1_Fold.calls a (⟨#[84, 82, 65, 67, 75]⟩ : ByteArray) _ _ m.out).mono ?_); rintro e i ⟨rfl, hb⟩; replace HB := bS bE hb; (try clear hb))); go_ret; exact ⟨rE, bE⟩
def lockkeeperref5_Check.f (k : Nat) (c : ByteArray) : Option (Int) := if (c.size : Int) > 32 then (some 5) else ((lockkeeperref1_Token.f k c).bind fun a => (if a = true then ((lockkeeperref5_Bars.f c).bind fun b => (if b = true then (some 5) else (some 0))) else (some 5)))
theorem lockkeeperref5_Check.mono : ∀ a k, LeO (lockkeeperref5_Check.f k a) (lockkeeperref5_Check.f (k + 1) a) := by
 intro a k
 have b := @lockkeeperref1_Token.mono; unfold lockkeeperref5_Check.f
 exact moE
theorem lockkeeperref5_Check.calls (k : Nat) (a : ByteArray) (r : Int) (w : World) (h : lockkeeperref5_Check.f k a = some r) :
  Calls Tryz.prog 52 #[.string a] w fun e w' => e = .returned (.int .i64 r) ∧ Below w.heap.size w w' := by
 have HB := Aside0.mk (Below.refl w.heap.size w); have H := h; clear h; unfold lockkeeperref5_Check.f at H; revert H; refine itePP_ (fun b H => ?g1p) (fun b H => ?g1n)
 case' g1p =>
  have c : decide (32 < (a.size : Int)) = true := decide_eq_true b; have d : decide (32 < a.size) = true := decide_eq_true (by omega); clear b; obtain rfl := si_ H
 case' g1n =>
  have c : decide (32 < (a.size : Int)) = false := decide_eq_false b; have d : decide (32 < a.size) = false := decide_eq_false (by omega); clear b; replace H := bd_ H; obtain ⟨n, l, H⟩ := H; revert H; refine iteB_ (fun g H => ?g2p) (fun g H => ?g2n)
  case' g2p =>
   subst g; replace H := bd_ H; obtain ⟨o, m, H⟩ := H; revert H; refine iteB_ (fun i H => ?g3p) (fun i H => ?g3n)
   case' g3p =>
    subst i; obtain rfl := si_ H
   case' g3n =>
    subst i; obtain rfl := si_ H
  case' g2n =>
   subst g; obtain rfl := si_ H
 all_goals
  go_enter Tryz.func52, Tryz.ntmps52; go_wp2_with (first | (go_at_call 111; (with_reducible refine (lockkeeperref1_Token.calls k a _ _ l.out).mono ?_); rintro e w' ⟨rfl, ⟨nd, rfl⟩⟩) | (go_at_call 112; (with_reducible refine (lockkeeperref5_Bars.calls a _ _ m.out).mono ?_); rintro e j ⟨rfl, hb⟩; replace HB := bS bE hb; (try clear hb))); go_ret; exact ⟨rE, bE⟩
def lockkeeperref4_pathByte.f (k : Nat) (b : Int) : Option (Bool) := (lockkeeperref4_byteOf.f k b (⟨#[34, 35, 60, 62, 63, 92, 94, 123, 124, 125]⟩ : ByteArray)).bind fun a => (if a = true then (some (b != 96)) else (some false))
theorem lockkeeperref4_pathByte.mono : ∀ a k, LeO (lockkeeperref4_pathByte.f k a) (lockkeeperref4_pathByte.f (k + 1) a) := by
 intro a k
 have b := @lockkeeperref4_byteOf.mono; unfold lockkeeperref4_pathByte.f
 exact moE
theorem lockkeeperref4_pathByte.calls (k : Nat) (a : Int) (r : Bool) (w : World) (h : lockkeeperref4_pathByte.f k a = some r) :
  Calls Tryz.prog 104 #[.int .u8 a] w fun e w' => e = .returned (.bool r) ∧ Drawn0 w w' := by
 have H := h; clear h; unfold lockkeeperref4_pathByte.f at H; replace H := bd_ H; obtain ⟨d, c, H⟩ := H; revert H; refine iteB_ (fun b H => ?g1p) (fun b H => ?g1n)
 case' g1p =>
  subst b; obtain rfl := si_ H
 case' g1n =>
  subst b; obtain rfl := si_ H
 all_goals
  go_enter Tryz.func104, Tryz.ntmps104; go_wp2_with (first | ((with_reducible refine gate_callee (f := 149) rfl ?_); refine gL _ Tryz.func149 _ ((lockkeeperref4_byteOf.calls k a (⟨#[34, 35, 60, 62, 63, 92, 94, 123, 124, 125]⟩ : ByteArray) _ _ c.out).mono ?_); rintro e w' ⟨rfl, ⟨nd, rfl⟩⟩; refine ⟨_, rfl, ?_⟩)); go_ret; exact ⟨rS, dE⟩
def lockkeeperref4_queryByte.f (k : Nat) (b : Int) : Option (Bool) := (lockkeeperref4_byteOf.f k b (⟨#[34, 35, 60, 62]⟩ : ByteArray)).bind fun a => (some a)
theorem lockkeeperref4_queryByte.mono : ∀ a k, LeO (lockkeeperref4_queryByte.f k a) (lockkeeperref4_queryByte.f (k + 1) a) := by
 intro a k
 have b := @lockkeeperref4_byteOf.mono; unfold lockkeeperref4_queryByte.f
 exact moE
theorem lockkeeperref4_queryByte.calls (k : Nat) (a : Int) (r : Bool) (w : World) (h : lockkeeperref4_queryByte.f k a = some r) :
  Calls Tryz.prog 105 #[.int .u8 a] w fun e w' => e = .returned (.bool r) ∧ Drawn0 w w' := by
 have H := h; clear h; unfold lockkeeperref4_queryByte.f at H; replace H := bd_ H; obtain ⟨b, c, H⟩ := H; obtain rfl := si_ H; go_enter Tryz.func105, Tryz.ntmps105; go_wp2_with (first | ((with_reducible refine gate_callee (f := 149) rfl ?_); refine gL _ Tryz.func149 _ ((lockkeeperref4_byteOf.calls k a (⟨#[34, 35, 60, 62]⟩ : ByteArray) b _ c.out).mono ?_); rintro e w' ⟨rfl, ⟨nd, rfl⟩⟩; refine ⟨_, rfl, ?_⟩)); go_ret; exact ⟨rS, dE⟩
def lockkeeperref4_dots.j0 : Nat → ByteArray → Bool → Option (Int)
 | 0, _, _ => none
 | k + 1, a, b => if b = true then (some 1) else (if a.toList = ([46, 46] : List UInt8) then (some 2) else (if a.toList = ([46, 37, 50, 101] : List UInt8) then (some 2) else (if a.toList = ([37, 50, 101, 46] : List UInt8) then (some 2) else (if a.toList = ([37, 50, 101, 37, 50, 101] : List UInt8) then (some 2) else (some 0)))))
def lockkeeperref4_dots.f (k : Nat) (b : ByteArray) : Option (Int) := (lockkeeperref1_Lower.f b).bind fun a => (if a.toList = ([46] : List UInt8) then (lockkeeperref4_dots.j0 k a (a.toList == ([46] : List UInt8))) else (lockkeeperref4_dots.j0 k a (a.toList == ([37, 50, 101] : List UInt8))))
theorem lockkeeperref4_dots.mono_l : ∀ k, (∀ a b, LeO (lockkeeperref4_dots.j0 k a b) (lockkeeperref4_dots.j0 (k + 1) a b))
 | 0 => fun _ _ r h => by simp [lockkeeperref4_dots.j0] at h
 | k + 1 => by
  have ih0 := lockkeeperref4_dots.mono_l k
  ·intros
   unfold lockkeeperref4_dots.j0
   exact moE
theorem lockkeeperref4_dots.mono : ∀ a k, LeO (lockkeeperref4_dots.f k a) (lockkeeperref4_dots.f (k + 1) a) := by
 intro a k
 have ih0 := lockkeeperref4_dots.mono_l k
 unfold lockkeeperref4_dots.f
 exact moE
theorem lockkeeperref4_dots.calls (k : Nat) (v : ByteArray) (r : Int) (w : World) (h : lockkeeperref4_dots.f k v = some r) :
  Calls Tryz.prog 150 #[.string v] w fun e w' => e = .returned (.int .i64 r) ∧ Below w.heap.size w w' := by
 have HB := Aside0.mk (Below.refl w.heap.size w); have H := h; clear h; unfold lockkeeperref4_dots.f at H; replace H := bd_ H; obtain ⟨u, z, H⟩ := H; have c := Aside0.mk H; clear H; go_enter Tryz.func150, Tryz.ntmps150
 go_upto_if 7 with (first | ((with_reducible refine gate_callee (f := 107) rfl ?_); refine gL _ Tryz.func107 _ ((lockkeeperref1_Lower.calls v u _ z.out).mono ?_); rintro e y ⟨rfl, hb⟩; refine ⟨_, rfl, ?_⟩; replace HB := bS bE hb; (try clear hb)))
 (try simp only [Act.put, List.setIfInBounds_toArray, List.set_cons_zero, List.set_cons_succ])
 go_cut [7] (fun d wc => ∃ (kq : Nat) (b : Bool), d = .bool b ∧ Aside0 (lockkeeperref4_dots.j0 kq u b = some r) ∧ Aside0 (kq ≤ k) ∧ Aside0 (Below w.heap.size w wc))
 case first =>
  have H := c.out; clear c; revert H; refine iteEF_ (fun a g H => ?g1p) (fun A a g H => ?g1n)
  case' g1p =>
   (first | rw [a] | (simp only [i64_w, i32_w]; rw [a]) | skip); have H' := Aside0.mk H; clear H; have i := trivial
  case' g1n =>
   (first | rw [a] | (simp only [i64_w, i32_w]; rw [a]) | skip); have H' := Aside0.mk H; clear H; have j := trivial
  all_goals
   go_wp2; go_meet
   first
   | clear i
     case rel => exact ⟨_, ((u.toList == ([46] : List UInt8))), rS, H', ⟨oE⟩, ⟨bE⟩⟩
   | clear j
     case rel => exact ⟨_, ((u.toList == ([37, 50, 101] : List UInt8))), rS, H', ⟨oE⟩, ⟨bE⟩⟩
 case rest =>
  clear c; (try clear A); obtain ⟨kq, b, rfl, HA, B, HB⟩ := hcut
  cases kq with
  | zero => exact absurd HA.out (by simp [lockkeeperref4_dots.j0])
  | succ D =>
   have H := HA.out; clear HA
   simp only [lockkeeperref4_dots.j0] at H
   revert H; refine iteB_ (fun x H => ?g3p) (fun x H => ?g3n)
   case' g3p =>
    subst x; obtain rfl := si_ H
   case' g3n =>
    subst x; revert H; refine iteEF_ (fun l m H => ?g4p) (fun E l m H => ?g4n)
    case' g4p =>
     obtain rfl := si_ H
    case' g4n =>
     revert H; refine iteEF_ (fun n o H => ?g5p) (fun G n o H => ?g5n)
     case' g5p =>
      obtain rfl := si_ H
     case' g5n =>
      revert H; refine iteEF_ (fun p q H => ?g6p) (fun I p q H => ?g6n)
      case' g6p =>
       obtain rfl := si_ H
      case' g6n =>
       revert H; refine iteEF_ (fun s t H => ?g7p) (fun J s t H => ?g7n)
       case' g7p =>
        obtain rfl := si_ H
       case' g7n =>
        obtain rfl := si_ H
   all_goals
    go_wp2; go_ret; exact ⟨rE, bE⟩
mutual
def lockkeeperref4_Clean.j0 : Nat → ByteArray → Bool → Option (ByteArray)
 | 0, _, _ => none
 | k + 1, a, b => if b = true then (if 1 + a.size ≤ 9223372036854775807 then (lockkeeperref4_Clean.j1 k ((⟨#[47]⟩ : ByteArray) ++ a)) else (none)) else (lockkeeperref4_Clean.j1 k a)
def lockkeeperref4_Clean.j1 : Nat → ByteArray → Option (ByteArray)
 | 0, _ => none
 | k + 1, a => lockkeeperref4_Clean.l0 k a ([] : List ByteArray) 1 1
def lockkeeperref4_Clean.l0 : Nat → ByteArray → List ByteArray → Int → Int → Option (ByteArray)
 | 0, _, _, _, _ => none
 | k + 1, b, c, d, a => if a ≤ (b.size : Int) then (if a < (b.size : Int) then (if 0 ≤ a then (lockkeeperref4_Clean.j3 k b c d a ((bt b a) != 47)) else (none)) else (lockkeeperref4_Clean.j3 k b c d a false)) else (lockkeeperref4_Clean.l1 k c (⟨#[]⟩ : ByteArray) 0)
def lockkeeperref4_Clean.j3 : Nat → ByteArray → List ByteArray → Int → Int → Bool → Option (ByteArray)
 | 0, _, _, _, _, _ => none
 | k + 1, c, d, e, a, g => if g = true then (lockkeeperref4_Clean.l0 k c d e (wrap64 (a + 1))) else (if 0 ≤ e then (if e ≤ a then (if a ≤ (c.size : Int) then ((lockkeeperref4_dots.f k (c.extract (e : Int).toNat (a : Int).toNat)).bind fun b => (if b = 0 then (if d.length < 8796093022208 then (lockkeeperref4_Clean.l0 k c (d ++ [c.extract (e : Int).toNat (a : Int).toNat]) (wrap64 (a + 1)) (wrap64 (a + 1))) else (none)) else (if b = 2 then (lockkeeperref4_Clean.j4 k c d (wrap64 (a + 1)) a (decide ((d.length : Int) > 0))) else (lockkeeperref4_Clean.j4 k c d (wrap64 (a + 1)) a false)))) else (none)) else (none)) else (none))
def lockkeeperref4_Clean.j4 : Nat → ByteArray → List ByteArray → Int → Int → Bool → Option (ByteArray)
 | 0, _, _, _, _, _ => none
 | k + 1, c, b, e, d, g => if g = true then (if 0 ≤ (wrap64 ((b.length : Int) - 1)) then (if (wrap64 ((b.length : Int) - 1)) ≤ (b.length : Int) then ((some (b.take ((wrap64 ((b.length : Int) - 1)) : Int).toNat : List ByteArray)).bind fun a => (if d = (c.size : Int) then (if a.length < 8796093022208 then (lockkeeperref4_Clean.l0 k c (a ++ [(⟨#[]⟩ : ByteArray)]) e (wrap64 (d + 1))) else (none)) else (lockkeeperref4_Clean.l0 k c a e (wrap64 (d + 1))))) else (none)) else (none)) else (if d = (c.size : Int) then (if b.length < 8796093022208 then (lockkeeperref4_Clean.l0 k c (b ++ [(⟨#[]⟩ : ByteArray)]) e (wrap64 (d + 1))) else (none)) else (lockkeeperref4_Clean.l0 k c b e (wrap64 (d + 1))))
def lockkeeperref4_Clean.l1 : Nat → List ByteArray → ByteArray → Int → Option (ByteArray)
 | 0, _, _, _ => none
 | k + 1, c, a, b => if b < (c.length : Int) then (if a.size + 1 ≤ 9223372036854775807 then (if 0 ≤ b then (if (a ++ (⟨#[47]⟩ : ByteArray)).size + (rdOf ByteArray.empty c b).size ≤ 9223372036854775807 then (lockkeeperref4_Clean.l1 k c ((a ++ (⟨#[47]⟩ : ByteArray)) ++ (rdOf ByteArray.empty c b)) (wrap64 (b + 1))) else (none)) else (none)) else (none)) else (if a.toList = ([] : List UInt8) then (some (⟨#[47]⟩ : ByteArray)) else (some a))
end
def lockkeeperref4_Clean.f (k : Nat) (a : ByteArray) : Option (ByteArray) := if a.toList = ([] : List UInt8) then (lockkeeperref4_Clean.j0 k a true) else (if 0 < (a.size : Int) then (lockkeeperref4_Clean.j0 k a ((bt a 0) != 47)) else (none))
theorem lockkeeperref4_Clean.mono_l : ∀ k, (∀ a b, LeO (lockkeeperref4_Clean.j0 k a b) (lockkeeperref4_Clean.j0 (k + 1) a b)) ∧ (∀ a, LeO (lockkeeperref4_Clean.j1 k a) (lockkeeperref4_Clean.j1 (k + 1) a)) ∧ (∀ a b c d, LeO (lockkeeperref4_Clean.l0 k a b c d) (lockkeeperref4_Clean.l0 (k + 1) a b c d)) ∧ (∀ a b c d e, LeO (lockkeeperref4_Clean.j3 k a b c d e) (lockkeeperref4_Clean.j3 (k + 1) a b c d e)) ∧ (∀ a b c d e, LeO (lockkeeperref4_Clean.j4 k a b c d e) (lockkeeperref4_Clean.j4 (k + 1) a b c d e)) ∧ (∀ a b c, LeO (lockkeeperref4_Clean.l1 k a b c) (lockkeeperref4_Clean.l1 (k + 1) a b c))
 | 0 => ⟨fun _ _ r h => by simp [lockkeeperref4_Clean.j0] at h, fun _ r h => by simp [lockkeeperref4_Clean.j1] at h, fun _ _ _ _ r h => by simp [lockkeeperref4_Clean.l0] at h, fun _ _ _ _ _ r h => by simp [lockkeeperref4_Clean.j3] at h, fun _ _ _ _ _ r h => by simp [lockkeeperref4_Clean.j4] at h, fun _ _ _ r h => by simp [lockkeeperref4_Clean.l1] at h⟩
 | k + 1 => by
  obtain ⟨ih0, ih1, ih2, ih3, ih4, ih5⟩ := lockkeeperref4_Clean.mono_l k
  have g := @lockkeeperref4_dots.mono
  refine ⟨?_, ?_, ?_, ?_, ?_, ?_⟩
  ·intros
   unfold lockkeeperref4_Clean.j0
   exact moE
  ·intro a
   unfold lockkeeperref4_Clean.j1
   exact moE
  ·intros
   unfold lockkeeperref4_Clean.l0
   exact moE
  ·intros
   unfold lockkeeperref4_Clean.j3
   exact moE
  ·intros
   unfold lockkeeperref4_Clean.j4
   exact moE
  ·intros
   unfold lockkeeperref4_Clean.l1
   exact moE
theorem lockkeeperref4_Clean.mono : ∀ a k, LeO (lockkeeperref4_Clean.f k a) (lockkeeperref4_Clean.f (k + 1) a) := by
 intro a k
 obtain ⟨ih0, ih1, ih2, ih3, ih4, ih5⟩ := lockkeeperref4_Clean.mono_l k
 have b := @lockkeeperref4_dots.mono; unfold lockkeeperref4_Clean.f
 exact moE
theorem lockkeeperref4_Clean.calls (k : Nat) (I r : ByteArray) (w : World) (h : lockkeeperref4_Clean.f k I = some r) :
  Calls Tryz.prog 106 #[.string I] w fun e w' => e = .returned (.string r) ∧ Below w.heap.size w w' := by
 have HB := Aside0.mk (Below.refl w.heap.size w); have H := h; clear h; unfold lockkeeperref4_Clean.f at H; have HC1 := Aside0.mk H; clear H; go_enter Tryz.func106, Tryz.ntmps106
 go_upto_region 1 with (first | (fail))
 go_cut [16] (fun v3s1 wc => ∃ (kq : Nat) (J : Bool), v3s1 = .bool J ∧ Aside0 (lockkeeperref4_Clean.j0 kq I J = some r) ∧ Aside0 (kq ≤ k) ∧ Aside0 (Below w.heap.size w wc))
 case first =>
  have H := HC1.out; clear HC1; revert H; refine iteEF_ (fun A c2b1 H => ?g1p) (fun c2 A c2b1 H => ?g1n)
  case' g1p =>
   (first | rw [A] | (simp only [i64_w, i32_w]; rw [A]) | skip); have H' := Aside0.mk H; clear H; have M2_0 := trivial
  case' g1n =>
   (first | rw [A] | (simp only [i64_w, i32_w]; rw [A]) | skip); revert H; refine iteNP_ fun c3 H => ?_; have v := decide_eq_true c3; have y : decide (0 < I.size) = true := decide_eq_true (by omega); clear c3; have H' := Aside0.mk H; clear H; have p4 : 0 ≤ (0 : Int) := (by omega); have q4 : 0 < I.size := (by have : (0 : Int) < (I.size : Int) := of_decide_eq_true mE; omega); have hx4 : ∀ h : 0 < I.size, ((I[0]'h).toNat : Int) = bt I 0 := bt_at I 0; clear p4; have qi4 : (0 < (I.size : Int)) = True := eq_true (of_decide_eq_true mE); replace q4 := eq_true q4; have M2_1 := trivial
  all_goals
   go_wp2; go_meet
   first
   | clear M2_0
     case rel => exact ⟨_, (true), rS, H', ⟨oE⟩, ⟨bE⟩⟩
   | clear M2_1
     case rel => exact ⟨_, (((bt I 0) != 47)), rS, H', ⟨oE⟩, ⟨bE⟩⟩
 case rest =>
  clear HC1; (try clear c2); (try clear c3); (try clear v); (try clear y); obtain ⟨kq, J, rfl, HA, i, HB⟩ := hcut
  cases kq with
  | zero => exact absurd HA.out (by simp [lockkeeperref4_Clean.j0])
  | succ kj1 =>
   have H := HA.out; clear HA
   simp only [lockkeeperref4_Clean.j0] at H
   have HC6 := Aside0.mk H; clear H
   go_upto_if 16 with (first | (fail))
   go_cut [0] (fun v7s1 wc => ∃ (kq : Nat) (d : ByteArray), v7s1 = .string d ∧ Aside0 (lockkeeperref4_Clean.j1 kq d = some r) ∧ Aside0 (kq ≤ kj1) ∧ Aside0 (Below w.heap.size w wc))
   case first =>
    have H := HC6.out; clear HC6; revert H; refine iteB_ (fun c7 H => ?g3p) (fun c7 H => ?g3n)
    case' g3p =>
     subst c7; revert H; refine iteNP_ fun c8 H => ?_; have B := eq_true c8; have D := decide_eq_true c8
     try have E : (9223372036854775807 < 1 + I.size) = False := eq_false (Nat.not_lt.2 c8)
     have H' := Aside0.mk H; clear H; have M4_0 := trivial
    case' g3n =>
     subst c7; have H' := Aside0.mk H; clear H; have M4_1 := trivial
    all_goals
     go_wp2; go_meet
     first
     | clear M4_0
       case rel => exact ⟨_, ((⟨#[47]⟩ : ByteArray) ++ I), rS, H', ⟨by have := i.out; first | omega | exact Nat.le_refl _⟩, ⟨bE⟩⟩
     | clear M4_1
       case rel => exact ⟨_, (I), rS, H', ⟨by have := i.out; first | omega | exact Nat.le_refl _⟩, ⟨bE⟩⟩
   case rest =>
    clear HC6; (try clear c2); (try clear c3); (try clear v); (try clear y); (try clear c7); (try clear c8); (try clear B); (try clear D); (try clear E); obtain ⟨kq, d, rfl, HA, n, HB⟩ := hcut
    cases kq with
    | zero => exact absurd HA.out (by simp [lockkeeperref4_Clean.j1])
    | succ kj5 =>
     have H := HA.out; clear HA
     simp only [lockkeeperref4_Clean.j1] at H
     have H' := Aside0.mk H; clear H; go_wp2
     go_loopg [3, 4, 5] kj5 (fun kq v11s1 v11s2 v11s3 w' => ∃ (a : List ByteArray) (j : Int) (c : Int), v11s2 = .int .i64 j ∧ v11s3 = .int .i64 c ∧ Aside0 (lockkeeperref4_Clean.l0 kq d a j c = some r) ∧ Aside0 (kq ≤ kj5) ∧ Aside0 (Kd.R Kd.string 9 w' w.heap.size (fun _ => True) v11s1 a) ∧ Aside0 (Below w.heap.size w w'))
     case atStart => exact ⟨(([] : List ByteArray)), (1), (1), rS, rS, H', ⟨Nat.le_refl _⟩, ⟨by first | exact Kd.R_nil _ _ _ _ _ | exact Kd.N_nil _ _ _ _ _ | exact Kd.V_nil _ _ _ _ _ | exact Kd.Q_nil _ _ _ _ _ | exact Kd.S_nil _ _ _ _ _⟩, ⟨bE⟩⟩
     case round =>
      clear H'; (try clear c2); (try clear c3); (try clear v); (try clear y); (try clear c7); (try clear c8); (try clear B); (try clear D); (try clear E); obtain ⟨a, j, c, rfl, rfl, HA, o, HO_3, HB⟩ := hrel
      cases gk with
      | zero => exact absurd HA.out (by simp [lockkeeperref4_Clean.l0])
      | succ k3 =>
       have H := HA.out; clear HA
       simp only [lockkeeperref4_Clean.l0] at H
       revert H; refine iteDD_ (fun O H => ?g5p) (fun O H => ?g5n)
       case' g5p =>
        have Z := Aside0.mk H; clear H; have M6_0 := trivial
       case' g5n =>
        have H' := Aside0.mk H; clear H; have M6_1 := trivial
       all_goals
        first
        | clear M6_0
          go_upto_region 8 with (first | (fail))
          go_cut [34] (fun K wc => ∃ (kq : Nat) (L : Bool), K = .bool L ∧ Aside0 (lockkeeperref4_Clean.j3 kq d a j c L = some r) ∧ Aside0 (kq ≤ k3) ∧ Aside0 (Kd.R Kd.string 9 wc w.heap.size (fun _ => True) u3 a) ∧ Aside0 (Below w.heap.size w wc))
          case first =>
           have H := Z.out; clear Z; revert H; refine iteDD_ (fun g H => ?g7p) (fun g H => ?g7n)
           case' g7p =>
            (first | rw [g] | (simp only [i64_w, i32_w]; rw [g]) | skip); revert H; refine iteND_ fun M H => ?_; have H' := Aside0.mk H; clear H; obtain ⟨p13, q13, a1⟩ := btf_ (s := d) (x := c) mE mE; have M8_0 := trivial
           case' g7n =>
            (first | rw [g] | (simp only [i64_w, i32_w]; rw [g]) | skip); have H' := Aside0.mk H; clear H; have M8_1 := trivial
           all_goals
            go_wp2; go_meet
            first
            | clear M8_0
              case rel => exact ⟨_, (((bt d c) != 47)), rS, H', ⟨by have := i.out; have := n.out; have := o.out; first | omega | exact Nat.le_refl _⟩, ⟨by (with_reducible repeat (first | apply Kd.R_alloc | apply Kd.R_drewN | apply Kd.R_drew)); exact HO_3.out⟩, ⟨bE⟩⟩
            | clear M8_1
              case rel => exact ⟨_, (false), rS, H', ⟨by have := i.out; have := n.out; have := o.out; first | omega | exact Nat.le_refl _⟩, ⟨by (with_reducible repeat (first | apply Kd.R_alloc | apply Kd.R_drewN | apply Kd.R_drew)); exact HO_3.out⟩, ⟨bE⟩⟩
          case rest =>
           clear Z; (try clear c2); (try clear c3); (try clear v); (try clear y); (try clear c7); (try clear c8); (try clear B); (try clear D); (try clear E); (try clear O); (try clear g); (try clear M); (try clear p13); (try clear q13); (try clear a1); obtain ⟨kq, L, rfl, HA, u, HO_3, HB⟩ := hcut
           cases kq with
           | zero => exact absurd HA.out (by simp [lockkeeperref4_Clean.j3])
           | succ ap =>
            have H := HA.out; clear HA
            simp only [lockkeeperref4_Clean.j3] at H
            revert H; refine iteB_ (fun a2 H => ?g9p) (fun a2 H => ?g9n)
            case' g9p =>
             subst a2; have H' := Aside0.mk H; clear H; have a3 := trivial; have M12_0 := trivial
            case' g9n =>
             subst a2; revert H; refine iteNT_ fun a4 a5 => iteNT_ fun a6 a7 => iteNT_ fun a8 a9 H => ?_; replace H := bd_ H; obtain ⟨t1, A18, H⟩ := H; revert H; refine iteEF_ (fun aa ab H => ?g10p) (fun c19 aa ab H => ?g10n)
             case' g10p =>
              revert H; refine iteNA_ fun LMc20 H => ?_
              try replace H := bsm_ H
              generalize hy21 : (a ++ [d.extract (j : Int).toNat (c : Int).toNat]) = y21 at H; have Ny21 := Aside0.mk hy21.symm; clear hy21; have H' := Aside0.mk H; clear H; have a3 := trivial; have M12_1 := trivial
             case' g10n =>
              have ac := Aside0.mk H; clear H; have M11_1 := trivial
            all_goals
             first
             | clear a3
               go_wp2_with (first | ((with_reducible refine gate_callee (f := 150) rfl ?_); refine gL _ Tryz.func150 _ ((lockkeeperref4_dots.calls ap (d.extract (j : Int).toNat (c : Int).toNat) _ _ A18.out).mono ?_); rintro e w2a1 ⟨rfl, hb⟩; refine ⟨_, rfl, ?_⟩; replace HO_3 := rM HO_3 hb; replace HB := bS bE hb; (try clear hb)) | ((with_reducible refine gate_builtin (b := .append) (xs := #[.tmp 45, .tmp 47]) rfl ?_); (try (refine gate_guard (by rfl) ?_; dsimp only)); at_builtin; refine Kd.R_append Kd.string (w0 := w) w.heap.size rfl (.tmp 45) (.tmp 47) 39 9 (.string ⟨#[]⟩) 16 rfl Tryz.underlying39 info9 rfl (by decide) (by omega) u3 a (d.extract (j : Int).toNat (c : Int).toNat) [.string (d.extract (j : Int).toNat (c : Int).toNat)] (fun _ => True) (fun _ => False) rfl rfl ?aP (fun _ hk => hk.elim) ?aF ?aO ?aB ?aS ?aL ?_; (case aP => exact rfl); (case aB => exact bE); (case aF => exact (fun _ _ => trivial)); (case aO => exact (rK HO_3.out)); (case aS => exact (below_size bE)); (case aL => have := LMc20.out; omega); intro v3a1 w3a2 ho hb hg hat; rw [← Ny21.out] at ho; have n0_ := Aside0.mk (hb); have n1_ := Aside0.mk (ho); clear HB; clear HO_3; have HB := n0_; have HO3a3 := n1_; clear n0_ n1_; clear ho hb hg hat))
               go_roundg ap
               case measure => have := i.out; have := n.out; have := o.out; have := u.out; omega
               first
               | clear M12_0
                 case rel => exact ⟨(a), (j), (wrap64 (c + 1)), rS, rS, H', ⟨by have := i.out; have := n.out; have := o.out; have := u.out; omega⟩, ⟨by (with_reducible repeat (first | apply Kd.R_alloc | apply Kd.R_drewN | apply Kd.R_drew)); exact HO_3.out⟩, ⟨bE⟩⟩
               | clear M12_1
                 case rel => exact ⟨(y21), (wrap64 (c + 1)), (wrap64 (c + 1)), rS, rS, H', ⟨by have := i.out; have := n.out; have := o.out; have := u.out; omega⟩, ⟨by (with_reducible repeat (first | apply Kd.R_alloc | apply Kd.R_drewN | apply Kd.R_drew)); exact HO3a3.out⟩, ⟨bE⟩⟩
             | clear M11_1
               go_upto_region 14 with (first | ((with_reducible refine gate_callee (f := 150) rfl ?_); refine gL _ Tryz.func150 _ ((lockkeeperref4_dots.calls ap (d.extract (j : Int).toNat (c : Int).toNat) t1 _ A18.out).mono ?_); rintro e w2a1 ⟨rfl, hb⟩; refine ⟨_, rfl, ?_⟩; replace HO_3 := rM HO_3 hb; replace HB := bS bE hb; (try clear hb)))
               (try simp only [Act.put, List.setIfInBounds_toArray, List.set_cons_zero, List.set_cons_succ])
               go_cut [55] (fun v20s1 wc => ∃ (kq : Nat) (z : Bool), v20s1 = .bool z ∧ Aside0 (lockkeeperref4_Clean.j4 kq d a (wrap64 (c + 1)) c z = some r) ∧ Aside0 (kq ≤ ap) ∧ Aside0 (Kd.R Kd.string 9 wc w.heap.size (fun _ => True) u3 a) ∧ Aside0 (Below w.heap.size w wc))
               case first =>
                have H := ac.out; clear ac; revert H; refine iteEF_ (fun q c21b1 H => ?g13p) (fun c21 q c21b1 H => ?g13n)
                case' g13p =>
                 (first | rw [q] | (simp only [i64_w, i32_w]; rw [q]) | skip); have H' := Aside0.mk H; clear H; obtain ⟨ad, ae, af⟩ := Kd.R_slice HO_3.out; subst af; have M14_0 := trivial
                case' g13n =>
                 (first | rw [q] | (simp only [i64_w, i32_w]; rw [q]) | skip); have H' := Aside0.mk H; clear H; have M14_1 := trivial
                all_goals
                 go_wp2; go_meet
                 first
                 | clear M14_0
                   case rel => exact ⟨_, (decide ((a.length : Int) > 0)), rS, H', ⟨by have := i.out; have := n.out; have := o.out; have := u.out; first | omega | exact Nat.le_refl _⟩, ⟨by (with_reducible repeat (first | apply Kd.R_alloc | apply Kd.R_drewN | apply Kd.R_drew)); exact HO_3.out⟩, ⟨bE⟩⟩
                 | clear M14_1
                   case rel => exact ⟨_, (false), rS, H', ⟨by have := i.out; have := n.out; have := o.out; have := u.out; first | omega | exact Nat.le_refl _⟩, ⟨by (with_reducible repeat (first | apply Kd.R_alloc | apply Kd.R_drewN | apply Kd.R_drew)); exact HO_3.out⟩, ⟨bE⟩⟩
               case rest =>
                clear ac; (try clear c2); (try clear c3); (try clear v); (try clear y); (try clear c7); (try clear c8); (try clear B); (try clear D); (try clear E); (try clear O); (try clear g); (try clear M); (try clear p13); (try clear q13); (try clear a1); (try clear a2); (try clear a4); (try clear a5); (try clear a6); (try clear a7); (try clear a8); (try clear a9); (try clear c19); (try clear aa); (try clear ab); (try clear c21); obtain ⟨kq, z, rfl, HA, G, HO_3, HB⟩ := hcut
                cases kq with
                | zero => exact absurd HA.out (by simp [lockkeeperref4_Clean.j4])
                | succ kj22 =>
                 have H := HA.out; clear HA
                 simp only [lockkeeperref4_Clean.j4] at H
                 revert H; refine iteB_ (fun aq H => ?g15p) (fun aq H => ?g15n)
                 case' g15p =>
                  subst aq; generalize hji24 : (wrap64 ((a.length : Int) - 1)) = p at H; have hji24w := (i64_w _).trans hji24; revert H; refine iteNT_ fun c26b0 c26b1 => iteNT_ fun c27b0 c27b1 H => ?_
                  try replace H := bsm_ H
                  generalize hy25 : (a.take ((p) : Int).toNat) = Y at H; have U := Aside0.mk hy25.symm; clear hy25; revert H; refine iteEF_ (fun ag ah H => ?g16p) (fun c28 ag ah H => ?g16n)
                  case' g16p =>
                   revert H; refine iteNA_ fun LMc29 H => ?_
                   try replace H := bsm_ H
                   generalize hy30 : (Y ++ [(⟨#[]⟩ : ByteArray)]) = y30 at H; have Ny30 := Aside0.mk hy30.symm; clear hy30; have H' := Aside0.mk H; clear H; obtain ⟨ad, ae, af⟩ := Kd.R_slice HO_3.out; subst af; have q31 : ((p) : Int) ≤ ((a.length : Int) : Int) := of_decide_eq_true mE; obtain ⟨i3, hi3, _, hsz15s1, _⟩ := info_parts info9; have hcut15s1 := cut_to (P := Tryz.prog) 39 9 .i64 Tryz.underlying39 hi3 ad a.length ae (p) (of_decide_eq_true mE) q31 (Kd.R_reads' HO_3.out).2.1; have W := Kd.R_take (m := ((p) : Int).toNat) HO_3.out (by omega); have hy31 : Y.length = ((p) : Int).toNat := (by rw [U.out, List.length_take]; omega)
                   rw [← U.out] at W
                   rw [← hy31] at W hcut15s1
                   clear hy31 hi3 hsz15s1 HO_3; have HO4 := Aside0.mk W; clear W; replace q31 := eq_true q31; have M18_0 := trivial
                  case' g16n =>
                   have H' := Aside0.mk H; clear H; obtain ⟨ad, ae, af⟩ := Kd.R_slice HO_3.out; subst af; have q29 : ((p) : Int) ≤ ((a.length : Int) : Int) := of_decide_eq_true mE; obtain ⟨i3, hi3, _, hsz4, _⟩ := info_parts info9; have hcut4 := cut_to (P := Tryz.prog) 39 9 .i64 Tryz.underlying39 hi3 ad a.length ae (p) (of_decide_eq_true mE) q29 (Kd.R_reads' HO_3.out).2.1; have X := Kd.R_take (m := ((p) : Int).toNat) HO_3.out (by omega); have hy29 : Y.length = ((p) : Int).toNat := (by rw [U.out, List.length_take]; omega)
                   rw [← U.out] at X
                   rw [← hy29] at X hcut4
                   clear hy29 hi3 hsz4 HO_3; have HO5 := Aside0.mk X; clear X; replace q29 := eq_true q29; have M18_1 := trivial
                 case' g15n =>
                  subst aq; revert H; refine iteEF_ (fun ai aj H => ?g17p) (fun c24 ai aj H => ?g17n)
                  case' g17p =>
                   revert H; refine iteNA_ fun LMc25 H => ?_
                   try replace H := bsm_ H
                   generalize hy26 : (a ++ [(⟨#[]⟩ : ByteArray)]) = y26 at H; have Ny26 := Aside0.mk hy26.symm; clear hy26; have H' := Aside0.mk H; clear H; have M18_2 := trivial
                  case' g17n =>
                   have H' := Aside0.mk H; clear H; have M18_3 := trivial
                 all_goals
                  go_wp2_with (first | ((with_reducible refine gate_builtin (b := .append) (xs := #[.tmp 65, .tmp 66]) rfl ?_); (try (refine gate_guard (by rfl) ?_; dsimp only)); at_builtin; refine Kd.R_append Kd.string (w0 := w) w.heap.size rfl (.tmp 65) (.tmp 66) 39 9 (.string ⟨#[]⟩) 16 rfl Tryz.underlying39 info9 rfl (by decide) (by omega) (.slice ad Y.length ae) Y (⟨#[]⟩ : ByteArray) [.string ⟨#[]⟩] (fun _ => True) (fun _ => False) rfl rfl ?aP (fun _ hk => hk.elim) ?aF ?aO ?aB ?aS ?aL ?_; (case aP => exact rfl); (case aB => exact bE); (case aF => exact (fun _ _ => trivial)); (case aO => exact (rK HO4.out)); (case aS => exact (below_size bE)); (case aL => have := LMc29.out; omega); intro v4a1 w4a2 ho hb hg hat; rw [← Ny30.out] at ho; have n0_ := Aside0.mk (hb); have n1_ := Aside0.mk (ho); clear HB; clear HO4; have HB := n0_; have HO4a3 := n1_; clear n0_ n1_; clear ho hb hg hat) | ((with_reducible refine gate_builtin (b := .append) (xs := #[.tmp 65, .tmp 66]) rfl ?_); (try (refine gate_guard (by rfl) ?_; dsimp only)); at_builtin; refine Kd.R_append Kd.string (w0 := w) w.heap.size rfl (.tmp 65) (.tmp 66) 39 9 (.string ⟨#[]⟩) 16 rfl Tryz.underlying39 info9 rfl (by decide) (by omega) u3 a (⟨#[]⟩ : ByteArray) [.string ⟨#[]⟩] (fun _ => True) (fun _ => False) rfl rfl ?aP (fun _ hk => hk.elim) ?aF ?aO ?aB ?aS ?aL ?_; (case aP => exact rfl); (case aB => exact bE); (case aF => exact (fun _ _ => trivial)); (case aO => exact (rK HO_3.out)); (case aS => exact (below_size bE)); (case aL => have := LMc25.out; omega); intro v5a1 w5a2 ho hb hg hat; rw [← Ny26.out] at ho; have n0_ := Aside0.mk (hb); have n1_ := Aside0.mk (ho); clear HB; clear HO_3; have HB := n0_; have HO5a3 := n1_; clear n0_ n1_; clear ho hb hg hat))
                  go_roundg kj22
                  case measure => have := i.out; have := n.out; have := o.out; have := u.out; have := G.out; omega
                  first
                  | clear M18_0
                    case rel => exact ⟨(y30), ((wrap64 (c + 1))), (wrap64 (c + 1)), rS, rS, H', ⟨by have := i.out; have := n.out; have := o.out; have := u.out; have := G.out; omega⟩, ⟨by (with_reducible repeat (first | apply Kd.R_alloc | apply Kd.R_drewN | apply Kd.R_drew)); exact HO4a3.out⟩, ⟨bE⟩⟩
                  | clear M18_1
                    case rel => exact ⟨(Y), ((wrap64 (c + 1))), (wrap64 (c + 1)), rS, rS, H', ⟨by have := i.out; have := n.out; have := o.out; have := u.out; have := G.out; omega⟩, ⟨by (with_reducible repeat (first | apply Kd.R_alloc | apply Kd.R_drewN | apply Kd.R_drew)); exact HO5.out⟩, ⟨bE⟩⟩
                  | clear M18_2
                    case rel => exact ⟨(y26), ((wrap64 (c + 1))), (wrap64 (c + 1)), rS, rS, H', ⟨by have := i.out; have := n.out; have := o.out; have := u.out; have := G.out; omega⟩, ⟨by (with_reducible repeat (first | apply Kd.R_alloc | apply Kd.R_drewN | apply Kd.R_drew)); exact HO5a3.out⟩, ⟨bE⟩⟩
                  | clear M18_3
                    case rel => exact ⟨(a), ((wrap64 (c + 1))), (wrap64 (c + 1)), rS, rS, H', ⟨by have := i.out; have := n.out; have := o.out; have := u.out; have := G.out; omega⟩, ⟨by (with_reducible repeat (first | apply Kd.R_alloc | apply Kd.R_drewN | apply Kd.R_drew)); exact HO_3.out⟩, ⟨bE⟩⟩
        | clear M6_1
          go_wp2
          go_loopg [8, 9] k3 (fun kq K v15s2 w' => ∃ (t : ByteArray) (l : Int), K = .string t ∧ v15s2 = .int .i64 l ∧ Aside0 (lockkeeperref4_Clean.l1 kq a t l = some r) ∧ Aside0 (kq ≤ k3) ∧ Aside0 (Kd.R Kd.string 9 w' w.heap.size (fun _ => True) u3 a) ∧ Aside0 (Below w.heap.size w w'))
          case atStart => exact ⟨((⟨#[]⟩ : ByteArray)), (0), rS, rS, H', ⟨Nat.le_refl _⟩, ⟨by (with_reducible repeat (first | apply Kd.R_alloc | apply Kd.R_drewN | apply Kd.R_drew)); exact HO_3.out⟩, ⟨bE⟩⟩
          case round =>
           clear H'; (try clear c2); (try clear c3); (try clear v); (try clear y); (try clear c7); (try clear c8); (try clear B); (try clear D); (try clear E); (try clear O); (try clear g); (try clear M); (try clear p13); (try clear q13); (try clear a1); (try clear a2); (try clear a4); (try clear a5); (try clear a6); (try clear a7); (try clear a8); (try clear a9); (try clear c19); (try clear c21); (try clear aq); (try clear c24); (try clear ai); (try clear aj); (try clear c28); (try clear ag); (try clear ah); obtain ⟨t, l, rfl, rfl, HA, HK4, HO_3, HB⟩ := hrel
           cases gk with
           | zero => exact absurd HA.out (by simp [lockkeeperref4_Clean.l1])
           | succ k4 =>
            have H := HA.out; clear HA
            simp only [lockkeeperref4_Clean.l1] at H
            revert H; refine iteDD_ (fun c30b0 H => ?g19p) (fun c30b0 H => ?g19n)
            case' g19p =>
             revert H; refine iteNP_ fun ar H => ?_; have ak := eq_true ar; have al := decide_eq_true ar
             try have c31b2 : (9223372036854775807 < t.size + 1) = False := eq_false (Nat.not_lt.2 ar)
             revert H; refine iteND_ fun c32b0 => iteNP_ fun am H => ?_
             try (have c33b5 := am; simp only [ByteArray.size_append, Int.natCast_add] at c33b5)
             have c33b0 := eq_true am; have c33b1 := decide_eq_true am
             try have c33b2 : (9223372036854775807 < (t ++ (⟨#[47]⟩ : ByteArray)).size + (rdOf ByteArray.empty a l).size) = False := eq_false (Nat.not_lt.2 am)
             try have c33b3 : (9223372036854775807 < t.size + 1 + (rdOf ByteArray.empty a l).size) = False := eq_false (Nat.not_lt.2 (by have z_ := am; simp only [ByteArray.size_append] at z_; first | exact z_ | simpa using z_))
             have H' := Aside0.mk H; clear H; obtain ⟨Ao1, co1, an⟩ := Kd.R_slice HO_3.out; subst an; have p34 : 0 ≤ (l : Int) := of_decide_eq_true mE; have q34 : l < (a.length : Int) := of_decide_eq_true mE; obtain ⟨ad34, e2, hx34_0⟩ := Kd.at_string (Kd.R_reads' HO_3.out).2.2 l p34 q34
             cases e2
             replace p34 := eq_true p34; replace q34 := eq_true q34; have M21_0 := trivial
            case' g19n =>
             revert H; refine iteEF_ (fun ak al H => ?g20p) (fun ar ak al H => ?g20n)
             case' g20p =>
              obtain rfl := si_ H; obtain ⟨Ao1, co1, an⟩ := Kd.R_slice HO_3.out; subst an; have ao := trivial
             case' g20n =>
              obtain rfl := si_ H; obtain ⟨Ao1, co1, an⟩ := Kd.R_slice HO_3.out; subst an; have ao := trivial
            all_goals
             go_wp2
             first
             | clear M21_0
               go_roundg k4
               case measure => have := i.out; have := n.out; have := o.out; have := HK4.out; omega
               case rel => exact ⟨((t ++ (⟨#[47]⟩ : ByteArray)) ++ (rdOf ByteArray.empty a l)), (wrap64 (l + 1)), rS, rS, H', ⟨by have := i.out; have := n.out; have := o.out; have := HK4.out; omega⟩, ⟨by (with_reducible repeat (first | apply Kd.R_alloc | apply Kd.R_drewN | apply Kd.R_drew)); exact HO_3.out⟩, ⟨bE⟩⟩
             | clear ao
               go_ret; exact ⟨rE, bE⟩
end Go.Proofs.YtfmajangcbgooaaGreatDoor.Pr

