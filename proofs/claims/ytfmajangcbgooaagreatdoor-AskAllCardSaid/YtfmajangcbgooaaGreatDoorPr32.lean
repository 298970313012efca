import Derived.Test.YtfmajangcbgooaaGreatDoorPr0
import Derived.Test.YtfmajangcbgooaaGreatDoorK0
import Derived.Test.YtfmajangcbgooaaGreatDoorPr10
import Derived.Test.YtfmajangcbgooaaGreatDoorPr13
import Derived.Test.YtfmajangcbgooaaGreatDoorPr16
import Derived.Test.YtfmajangcbgooaaGreatDoorPr19
import Derived.Test.YtfmajangcbgooaaGreatDoorPr21
import Derived.Test.YtfmajangcbgooaaGreatDoorPr26
import Derived.Test.YtfmajangcbgooaaGreatDoorPr22
import Derived.Test.YtfmajangcbgooaaGreatDoorG1
import Derived.Test.YtfmajangcbgooaaGreatDoorG11
import Derived.Test.YtfmajangcbgooaaGreatDoorG5
namespace Go.Proofs.YtfmajangcbgooaaGreatDoor.Pr
open Go.RowKit Go.Proofs.YtfmajangcbgooaaGreatDoorW.PrintWords Go.Proofs.YtfmajangcbgooaaGreatDoorW.PrintLast Go.Proofs.YtfmajangcbgooaaGreatDoorW.PrintMore
attribute [local go_sem] max2_int min2_int max_two min_two max_three min_three max_four min_four
set_option linter.unusedVariables false
set_option maxHeartbeats 64000000
set_option maxRecDepth 100000
set_option linter.unusedSimpArgs false
attribute [local go_sem high] eqA70
def lockkeeperref4_Show.f (k : Nat) (d e : ByteArray) (g : Int) (a b : ByteArray) : Option (ByteArray) := (lockkeeperref4_Check.f k d e g a b).bind fun i => (if i = true then ((lockkeeperref3_Show.f k d e g).bind fun c => (if c.size + a.size ≤ 9223372036854775807 then (if (c ++ a).size + b.size ≤ 9223372036854775807 then (some ((c ++ a) ++ b)) else (none)) else (none))) else (some (⟨#[]⟩ : ByteArray)))
theorem lockkeeperref4_Show.mono : ∀ a b c d e k, LeO (lockkeeperref4_Show.f k a b c d e) (lockkeeperref4_Show.f (k + 1) a b c d e) := by
 intro a b c d e k
 have g := @lockkeeperref3_Show.mono; have i := @lockkeeperref4_Check.mono; unfold lockkeeperref4_Show.f
 exact moE
def lockkeeperref4_Show.T3 : Bool × List (List Nat × List Nat) := (true, [([], []), ([0], [0]), ([1], [1]), ([], []), ([3], [3]), ([2, 4], [2, 4]), ([], []), ([6], [6]), ([5, 7], [5, 7]), ([8, 2, 0, 1, 2, 3, 4, 5, 6, 7, 8], [8])])
def lockkeeperref4_Show.B3 : List Nat := [0, 1, 3, 0, 8, 31, 0, 64, 255, 511]
theorem lockkeeperref4_Show.tab3 : rtab .any (opsOf Tryz.f62 3) = lockkeeperref4_Show.T3 := by kernel_rfl
theorem lockkeeperref4_Show.bits3 : waitsOk lockkeeperref4_Show.T3.2 lockkeeperref4_Show.B3 = true := by kernel_rfl
theorem lockkeeperref4_Show.calls (k : Nat) (c d : ByteArray) (g : Int) (b i r : ByteArray) (w : World) (h : lockkeeperref4_Show.f k c d g b i = some r) :
  Calls Tryz.prog 62 #[.agg #[.string c, .string d, .int .i64 g, .string b, .string i]] w fun e w' => e = .returned (.string r) ∧ Below w.heap.size w w' := by
 have W := Tryz.underlying72; have X := Tryz.underlying70; have HB := Aside0.mk (Below.refl w.heap.size w); have H := h; clear h; unfold lockkeeperref4_Show.f at H; replace H := bd_ H; obtain ⟨t1, A1, H⟩ := H; revert H; refine iteB_ (fun J H => ?g1p) (fun J H => ?g1n)
 case' g1p =>
  subst J; replace H := bd_ H; obtain ⟨A, A3, H⟩ := H; revert H; refine iteNP_ fun L H => ?_; have Y := eq_true L; have Z := decide_eq_true L
  try have a0 : (9223372036854775807 < A.size + b.size) = False := eq_false (Nat.not_lt.2 L)
  revert H; refine iteNP_ fun m H => ?_
  try (have o := m; simp only [ByteArray.size_append, Int.natCast_add] at o)
  have a1 := eq_true m; have a2 := decide_eq_true m
  try have a3 : (9223372036854775807 < (A ++ b).size + i.size) = False := eq_false (Nat.not_lt.2 m)
  try have a4 : (9223372036854775807 < A.size + b.size + i.size) = False := eq_false (Nat.not_lt.2 (by have z_ := m; simp only [ByteArray.size_append] at z_; first | exact z_ | simpa using z_))
  obtain rfl := si_ H; have p := trivial
 case' g1n =>
  subst J; obtain rfl := si_ H; have q := trivial
 all_goals
  go_enter Tryz.func62, Tryz.ntmps62
  try go_wp2_with (first | ((with_reducible refine gate_dst (N := 1) rfl ?_); refine bxE (N := 1) (cs := #[.string c, .string d, .int .i64 g, .string b, .string i]) (t := 72) fun j hg a5 hbox hb => ?_; obtain ⟨HB', a, l⟩ := bx_ bE hg hbox hb; have M := l; clear HB hb hbox hg; have HB := HB'; clear HB'; obtain ⟨B, D, E, G, I, s, u, v, x, y⟩ := bk5_ a) | ((with_reducible refine gate_callee (f := 119) rfl ?_); refine gL _ Tryz.func119 _ ((lockkeeperref4_Check.calls k c d g b i _ _ A1.out).mono ?_); rintro e z ⟨rfl, hb⟩; refine ⟨_, rfl, ?_⟩; replace a := kM a hb; replace HB := bS bE hb; (try clear hb)))
  first
  | clear p
    have n0_ := Aside0.mk (blk_drew a.out); have n1_ := Aside0.mk (below_drew1 HB.out); clear a; clear HB; have a := n0_; have HB := n1_; clear n0_ n1_; refine start_ (n := 10) (S := fun w' => w'.cell? ⟨j, 0, none⟩ = some (.string c) ∧ w'.cell? ⟨j, 1, none⟩ = some (.string d) ∧ w'.cell? ⟨j, 2, none⟩ = some (.int .i64 g) ∧ w'.cell? ⟨j, 3, none⟩ = some (.string b) ∧ w'.cell? ⟨j, 4, none⟩ = some (.string i)) (ds := []) (bz 10 0) (by kernel_rfl) rfl rfl (bkc5_ a) (fun hHeld => ?_); refine with_tabW lockkeeperref4_Show.tab3 lockkeeperref4_Show.bits3 (fun HT_ HW_ => ?_); generalize z.drew = O at a HB hHeld ⊢; refine qA 0 6 10 1 ?_; refine qA 3 9 10 9 ?_; refine qA 6 12 10 73 ?_; refine tA5 1 7 10 75 ?_; refine tA5 4 10 10 91 ?_; refine tA5 7 13 10 219 ?_; refine oB 2 8 10 223 fun K hK => ?_; refine gS Tryz.func63 #[.agg #[.string c, .string d, .int .i64 g]] ?_
    with_reducible refine (lockkeeperref3_Show.calls k c d g A _ A3.out).mono ?_
    rintro e U ⟨rfl, hb⟩; refine ⟨_, rfl, ?_⟩; replace a := kM a hb; replace HB := bS bE hb; (try clear hb); refine hK.out _ _ (bkc5_ a) (fun hHeld => ?_); clear hK K; refine nA 8 ?_; refine qA 5 11 10 255 ?_; refine qA 8 14 10 511 ?_; refine qA 9 2 10 1023 ?_; refine done_ (done_of HT_.out (by kernel_rfl)) ?_
    try go_wp2
    go_ret; exact ⟨rE, bE⟩
  | clear q
    go_ret; exact ⟨rE, bE⟩
def lockkeeperref6_Norm.l0 : Nat → List (S28) → List (S28) → Int → Option ((List (S28)))
 | 0, _, _, _ => none
 | k + 1, d, e, a => if a < (d.length : Int) then (if 0 ≤ a then ((lockkeeperref1_Lower.f ((rd_T28 d a).f0)).bind fun b => ((lockkeeperref1_Trim.f k ((rd_T28 d a).f1)).bind fun c => (if e.length < 4398046511104 then (lockkeeperref6_Norm.l0 k d (e ++ [(⟨b, c⟩ : S28)]) (wrap64 (a + 1))) else (none)))) else (none)) else (some e)
def lockkeeperref6_Norm.f (k : Nat) (l0 : List (S28)) : Option ((List (S28))) := lockkeeperref6_Norm.l0 k l0 ([] : List (S28)) 0
theorem lockkeeperref6_Norm.mono_l : ∀ k, (∀ a b c, LeO (lockkeeperref6_Norm.l0 k a b c) (lockkeeperref6_Norm.l0 (k + 1) a b c))
 | 0 => fun _ _ _ r h => by simp [lockkeeperref6_Norm.l0] at h
 | k + 1 => by
  have ih0 := lockkeeperref6_Norm.mono_l k
  ·intros
   have d := @lockkeeperref1_Trim.mono; unfold lockkeeperref6_Norm.l0
   exact moE
theorem lockkeeperref6_Norm.mono : ∀ a k, LeO (lockkeeperref6_Norm.f k a) (lockkeeperref6_Norm.f (k + 1) a) := by
 intro a k
 have ih0 := lockkeeperref6_Norm.mono_l k
 have b := @lockkeeperref1_Trim.mono; unfold lockkeeperref6_Norm.f
 exact moE
def lockkeeperref6_Norm.T5 : Bool × List (List Nat × List Nat) := (true, [([], []), ([], []), ([], []), ([1, 2], [1, 2]), ([3], [3]), ([4], [4]), ([5], [5]), ([], []), ([], []), ([7, 8], [7, 8]), ([9], [9]), ([10], [10]), ([11, 6], [11]), ([6, 12], [6, 12]), ([13], [13]), ([0, 14, 12], [0, 14]), ([15, 15, 0, 1, 2, 3, 4, 5, 6, 7, 8, 9, 10, 11, 12, 13, 14, 15], [0, 15])])
def lockkeeperref6_Norm.B5 : List Nat := [0, 0, 0, 6, 14, 30, 62, 0, 0, 384, 896, 1920, 4094, 8190, 16382, 32767, 65535]
theorem lockkeeperref6_Norm.tab5 : rtab .any (opsOf Tryz.f64 5) = lockkeeperref6_Norm.T5 := by kernel_rfl
theorem lockkeeperref6_Norm.bits5 : waitsOk lockkeeperref6_Norm.T5.2 lockkeeperref6_Norm.B5 = true := by kernel_rfl
theorem lockkeeperref6_Norm.calls (k : Nat) (A0 : Option Addr) (c0 : Nat) (l0 : List (S28)) (r : List (S28)) (w : World) (B : Kd.C k28 w A0 l0.length l0) (D : l0.length ≤ c0) (h : lockkeeperref6_Norm.f k l0 = some r) :
  Calls Tryz.prog 64 #[.slice A0 l0.length c0] w fun e w' => ∃ E : Value, e = .returned (E) ∧ Kd.R k28 28 w' w.heap.size (fun _ => True) E r ∧ Below w.heap.size w w' := by
 have hu28 := Tryz.underlying28; have G := Aside0.mk B; have HC1 := Aside0.mk D; clear B D; have HB := Aside0.mk (Below.refl w.heap.size w); have H : (lockkeeperref6_Norm.l0 k l0 ([] : List (S28)) 0) = some r := h; clear h; have H' := Aside0.mk H; clear H; go_enter Tryz.func64, Tryz.ntmps64; go_wp2
 go_loopg [3, 4] k (fun kq I J w' => ∃ (p : List (S28)) (g : Int), J = .int .i64 g ∧ Aside0 (lockkeeperref6_Norm.l0 kq l0 p g = some r) ∧ Aside0 (kq ≤ k) ∧ Aside0 (Kd.R k28 28 w' w.heap.size (fun _ => True) I p) ∧ Aside0 (Below w.heap.size w w'))
 case atStart => exact ⟨(([] : List (S28))), (0), rS, H', ⟨Nat.le_refl _⟩, ⟨by first | exact Kd.R_nil _ _ _ _ _ | exact Kd.N_nil _ _ _ _ _ | exact Kd.V_nil _ _ _ _ _ | exact Kd.Q_nil _ _ _ _ _ | exact Kd.S_nil _ _ _ _ _⟩, ⟨bE⟩⟩
 case round =>
  clear H'; obtain ⟨p, g, rfl, HA, L, HO_3, HB⟩ := hrel
  cases gk with
  | zero => exact absurd HA.out (by simp [lockkeeperref6_Norm.l0])
  | succ k1 =>
   have H := HA.out; clear HA
   simp only [lockkeeperref6_Norm.l0] at H
   revert H; refine iteDD_ (fun M H => ?g1p) (fun M H => ?g1n)
   case' g1p =>
    revert H; refine iteND_ fun c3b0 H => ?_; replace H := bd_ H; obtain ⟨O, A4, H⟩ := H; replace H := bd_ H; obtain ⟨U, A5, H⟩ := H; revert H; refine iteNA_ fun W H => ?_
    try replace H := bsm_ H
    generalize X : (p ++ [(⟨O, U⟩ : S28)]) = y7 at H; have a0 := Aside0.mk X.symm; clear X; have H' := Aside0.mk H; clear H; have Y := trivial
   case' g1n =>
    obtain rfl := si_ H; have Z := trivial
   all_goals
    try go_wp2
    first
    | clear Y
      have n0_ := Aside0.mk (Kd.R_drew HO_3.out); have n1_ := Aside0.mk (below_drew1 HB.out); clear HO_3; clear HB; have HO_3 := n0_; have HB := n1_; clear n0_ n1_; have q : 0 ≤ (g : Int) := of_decide_eq_true mE; have s : g < (l0.length : Int) := of_decide_eq_true mE; obtain ⟨o, z, i, j⟩ := at_T28 G.out g q s; have a := j; have b := i
      cases z
      replace i := (HB.out.cell (World.block_lt_of_cell? w _ i)).trans i; replace j := (HB.out.cell (World.block_lt_of_cell? w _ j)).trans j; replace q := eq_true q; replace s := eq_true s; have t : 0 ≤ (g : Int) := of_decide_eq_true mE; have u : g < (l0.length : Int) := of_decide_eq_true mE; obtain ⟨x, A, l, m⟩ := at_T28 G.out g t u; have c := m; have d := l; obtain rfl : o = x := (by injection A); replace l := (HB.out.cell (World.block_lt_of_cell? w _ l)).trans l; replace m := (HB.out.cell (World.block_lt_of_cell? w _ m)).trans m; replace t := eq_true t; replace u := eq_true u; refine start_ (n := 17) (S := fun w' => w'.cell? (o.add ((g).toNat * 2)) = some (.string ((rd_T28 l0 g).f0)) ∧ w'.cell? ⟨(o.add ((g).toNat * 2)).block, (o.add ((g).toNat * 2)).off + 1, none⟩ = some (.string ((rd_T28 l0 g).f1)) ∧ w'.cell? (o.add ((g).toNat * 2)) = some (.string ((rd_T28 l0 g).f0)) ∧ w'.cell? ⟨(o.add ((g).toNat * 2)).block, (o.add ((g).toNat * 2)).off + 1, none⟩ = some (.string ((rd_T28 l0 g).f1))) (ds := []) (bz 17 0) (by kernel_rfl) rfl rfl ⟨((HB.out.cell (World.block_lt_of_cell? w _ b)).trans b), ((HB.out.cell (World.block_lt_of_cell? w _ a)).trans a), ((HB.out.cell (World.block_lt_of_cell? w _ d)).trans d), ((HB.out.cell (World.block_lt_of_cell? w _ c)).trans c)⟩ (fun hHeld => ?_); refine with_tabW lockkeeperref6_Norm.tab5 lockkeeperref6_Norm.bits5 (fun HT_ HW_ => ?_); generalize wr.drew = a1 at HO_3 HB i j l m hHeld ⊢; refine qA 0 11 17 1 ?_; refine qA 1 12 17 3 ?_; refine qA 2 13 17 7 ?_; refine qA 3 14 17 15 ?_; refine qA 4 15 17 31 ?_; refine qA 7 18 17 159 ?_; refine qA 8 19 17 415 ?_; refine qA 9 20 17 927 ?_; refine qA 10 21 17 1951 ?_; refine tA4 5 16 17 1983 ?_; refine tA4 11 22 17 4031 ?_; refine oB 6 17 17 4095 fun K hK => ?_; refine gS Tryz.func107 #[.string ((rd_T28 l0 g).f0)] ?_
      with_reducible refine (lockkeeperref1_Lower.calls ((rd_T28 l0 g).f0) O _ A4.out).mono ?_
      rintro e a2 ⟨rfl, hb⟩; refine ⟨_, rfl, ?_⟩; replace HO_3 := rM HO_3 hb; replace HB := bS bE hb; (try clear hb); refine hK.out _ _ ⟨((HB.out.cell (World.block_lt_of_cell? w _ b)).trans b), ((HB.out.cell (World.block_lt_of_cell? w _ a)).trans a), ((HB.out.cell (World.block_lt_of_cell? w _ d)).trans d), ((HB.out.cell (World.block_lt_of_cell? w _ c)).trans c)⟩ (fun hHeld => ?_); clear hK K; refine nA 17 ?_; refine oB 12 23 17 8191 fun K hK => ?_; refine gS Tryz.func113 #[.string ((rd_T28 l0 g).f1)] ?_
      with_reducible refine (lockkeeperref1_Trim.calls k1 ((rd_T28 l0 g).f1) U _ A5.out).mono ?_
      rintro e w' ⟨rfl, ⟨nd, rfl⟩⟩; refine ⟨_, rfl, ?_⟩; refine hK.out _ _ ⟨((HB.out.cell (World.block_lt_of_cell? w _ b)).trans b), ((HB.out.cell (World.block_lt_of_cell? w _ a)).trans a), ((HB.out.cell (World.block_lt_of_cell? w _ d)).trans d), ((HB.out.cell (World.block_lt_of_cell? w _ c)).trans c)⟩ (fun hHeld => ?_); clear hK K; refine nA 23 ?_; refine qA 13 24 17 16383 ?_; refine oB 14 25 17 32767 fun K hK => ?_; refine value_ (w1 := ?_) (v := ?_) (by rfl) rfl ?_ ?_
      rotate_left 2
      ·go_simp
       constructor
       ·rfl
       ·rfl
      refine hK.out _ _ ⟨(World.cell?_alloc_lt _ _ _ (World.block_lt_of_cell? _ _ (((HB.out.cell (World.block_lt_of_cell? w _ b)).trans b)))).trans (((HB.out.cell (World.block_lt_of_cell? w _ b)).trans b)), (World.cell?_alloc_lt _ _ _ (World.block_lt_of_cell? _ _ (((HB.out.cell (World.block_lt_of_cell? w _ a)).trans a)))).trans (((HB.out.cell (World.block_lt_of_cell? w _ a)).trans a)), (World.cell?_alloc_lt _ _ _ (World.block_lt_of_cell? _ _ (((HB.out.cell (World.block_lt_of_cell? w _ d)).trans d)))).trans (((HB.out.cell (World.block_lt_of_cell? w _ d)).trans d)), (World.cell?_alloc_lt _ _ _ (World.block_lt_of_cell? _ _ (((HB.out.cell (World.block_lt_of_cell? w _ c)).trans c)))).trans (((HB.out.cell (World.block_lt_of_cell? w _ c)).trans c))⟩ (fun hHeld => ?_); clear hK K; refine nA 25 ?_; refine oB 15 26 17 65535 fun K hK => ?_; refine Kd.R_append_step k28 (w0 := w) w.heap.size (by rfl) (.tmp 11) (.tmp 25) 23 28 (.agg #[(.string ⟨#[]⟩), (.string ⟨#[]⟩)]) 32 rfl Tryz.underlying23 info28 rfl (by decide) (by omega) u3 p (⟨O, U⟩ : S28) [.string O, .string U] (fun _ => True) (fun _ => False) rfl rfl ?aP (fun _ hk => hk.elim) ?aF ?aO ?aB ?aS ?aL ?_; (case aP => exact k28_mkM _ _ _ (⟨O, U⟩ : S28)); (case aB => exact bE); (case aF => exact (fun _ _ => trivial)); (case aO => exact (rK HO_3.out)); (case aS => exact (below_size bE)); (case aL => have := W.out; omega); intro a3 a4 ho hb hg hat
      rw [← a0.out] at ho
      have n0_ := Aside0.mk (hb); have n1_ := Aside0.mk (ho); clear HB; clear HO_3; have HB := n0_; have y := n1_; clear n0_ n1_; clear ho hb hg hat; refine hK.out _ _ ⟨((HB.out.cell (World.block_lt_of_cell? w _ b)).trans b), ((HB.out.cell (World.block_lt_of_cell? w _ a)).trans a), ((HB.out.cell (World.block_lt_of_cell? w _ d)).trans d), ((HB.out.cell (World.block_lt_of_cell? w _ c)).trans c)⟩ (fun hHeld => ?_); clear hK K; refine nA 26 ?_; refine qA 16 3 17 131071 ?_; refine done_ (done_of HT_.out (by kernel_rfl)) ?_
      try go_wp2
      go_roundg k1
      case measure => have := L.out; omega
      case rel => exact ⟨(y7), (wrap64 (g + 1)), rS, H', ⟨by have := L.out; omega⟩, ⟨by (with_reducible repeat (first | apply Kd.R_alloc | apply Kd.R_drewN | apply Kd.R_drew)); exact y.out⟩, ⟨bE⟩⟩
    | clear Z
      go_ret; exact ⟨_, rE, by (with_reducible repeat (first | apply Kd.R_alloc | apply Kd.R_drewN | apply Kd.R_drew)); exact HO_3.out, bE⟩
def lockkeeperref8_Norm.f (k : Nat) (c d e : ByteArray) (g : Int) (i : Bool) (j : List (S28)) (l m n o : Int) : Option (ByteArray × ByteArray × ByteArray × Int × Bool × (List (S28)) × Int × Int × Int × Int) := (lockkeeperref8_Check.f k c d e g i j l m n o).bind fun p => (if p = 0 then ((lockkeeperref4_Parse.f k d).bind fun a => ((lockkeeperref3_Parse.f k e).bind fun b => ((lockkeeperref5_Norm.f c).bind fun q => ((lockkeeperref4_Show.f k a.1 a.2.1 a.2.2.1 a.2.2.2.1 a.2.2.2.2.1).bind fun r => ((lockkeeperref3_Show.f k b.1 b.2.1 b.2.2.1).bind fun s => ((lockkeeperref6_Norm.f k j).bind fun t => (some (q, r, s, g, i, t, l, m, n, o)))))))) else (some ((⟨#[]⟩ : ByteArray), (⟨#[]⟩ : ByteArray), (⟨#[]⟩ : ByteArray), 0, false, ([] : List (S28)), 0, 0, 0, 0)))
theorem lockkeeperref8_Norm.mono : ∀ a b c d e g i j l m k, LeO (lockkeeperref8_Norm.f k a b c d e g i j l m) (lockkeeperref8_Norm.f (k + 1) a b c d e g i j l m) := by
 intro a b c d e g i j l m k
 have n := @lockkeeperref3_Parse.mono; have o := @lockkeeperref3_Show.mono; have p := @lockkeeperref4_Parse.mono; have q := @lockkeeperref4_Show.mono; have r := @lockkeeperref6_Norm.mono; have s := @lockkeeperref8_Check.mono; unfold lockkeeperref8_Norm.f
 exact moE
theorem lockkeeperref8_Norm.calls (k : Nat) (y z x : ByteArray) (n : Int) (q : Bool) (A : Option Addr) (B : Nat) (m : List (S28)) (r s u v : Int) (r1 r2 r3 : ByteArray) (r4 : Int) (r5 : Bool) (r6 : List (S28)) (r7 r8 r9 ax : Int) (w : World) (aj : Kd.C k28 w A m.length m) (ak : m.length ≤ B) (h : lockkeeperref8_Norm.f k y z x n q m r s u v = some (r1, r2, r3, r4, r5, r6, r7, r8, r9, ax)) :
  Calls Tryz.prog 21 #[.agg #[.string y, .string z, .string x, .int .i64 n, .bool q, .slice A m.length B, .int .i64 r, .int .u64 s, .int .i64 u, .int .i64 v]] w fun e w' => ∃ v5_ : Value, e = .returned (.agg #[.string r1, .string r2, .string r3, .int .i64 r4, .bool r5, v5_, .int .i64 r7, .int .u64 r8, .int .i64 r9, .int .i64 ax]) ∧ Kd.R k28 28 w' w.heap.size (fun _ => True) v5_ r6 ∧ Below w.heap.size w w' := by
 have hu26 := Tryz.underlying26; have hu72 := Tryz.underlying72; have hu70 := Tryz.underlying70; have HR1_5 := Aside0.mk aj; have K := Aside0.mk ak; clear aj ak; have HB := Aside0.mk (Below.refl w.heap.size w); have H := h; clear h; unfold lockkeeperref8_Norm.f at H; replace H := bd_ H; obtain ⟨t1, A2, H⟩ := H; revert H; refine iteEF_ (fun c3b0 c3b1 H => ?g1p) (fun c3 c3b0 c3b1 H => ?g1n)
 case' g1p =>
  replace H := bd_ H; obtain ⟨⟨t2, t9, L, M, O, t13⟩, A4, H⟩ := H; replace H : ((lockkeeperref3_Parse.f k x).bind fun bt3 => ((lockkeeperref5_Norm.f y).bind fun t4 => ((lockkeeperref4_Show.f k t2 t9 L M O).bind fun t6 => ((lockkeeperref3_Show.f k bt3.1 bt3.2.1 bt3.2.2.1).bind fun t7 => ((lockkeeperref6_Norm.f k m).bind fun t8 => (some (t4, t6, t7, n, q, t8, r, s, u, v))))))) = some (r1, r2, r3, r4, r5, r6, r7, r8, r9, ax) := H; replace H := bd_ H; obtain ⟨⟨t3, ah, ai, t16⟩, A6, H⟩ := H; replace H : ((lockkeeperref5_Norm.f y).bind fun t4 => ((lockkeeperref4_Show.f k t2 t9 L M O).bind fun t6 => ((lockkeeperref3_Show.f k t3 ah ai).bind fun t7 => ((lockkeeperref6_Norm.f k m).bind fun t8 => (some (t4, t6, t7, n, q, t8, r, s, u, v)))))) = some (r1, r2, r3, r4, r5, r6, r7, r8, r9, ax) := H; replace H := bd_ H; obtain ⟨t4, A7, H⟩ := H; replace H := bd_ H; obtain ⟨t6, A8, H⟩ := H; replace H := bd_ H; obtain ⟨t7, A9, H⟩ := H; replace H := bd_ H; obtain ⟨t8, A10, H⟩ := H
  simp only [Option.some.injEq, Prod.mk.injEq] at H
  obtain ⟨rfl, rfl, rfl, rfl, rfl, rfl, rfl, rfl, rfl, rfl⟩ := H; have G2 := trivial; have M4_0 := trivial
 case' g1n =>
  simp only [Option.some.injEq, Prod.mk.injEq] at H
  obtain ⟨rfl, rfl, rfl, rfl, rfl, rfl, rfl, rfl, rfl, rfl⟩ := H; have G3 := trivial; have M4_1 := trivial
 all_goals
  go_enter Tryz.func21, Tryz.ntmps21; go_wp2_with (first | ((with_reducible refine gate_dst (N := 1) rfl ?_); refine bxE (N := 1) (cs := #[.string y, .string z, .string x, .int .i64 n, .bool q, .slice A m.length B, .int .i64 r, .int .u64 s, .int .i64 u, .int .i64 v]) (t := 26) fun G hg w1a2 hbox hb => ?_; obtain ⟨HB', a, GW1a1⟩ := bx_ bE hg hbox hb; have GE1a1 := GW1a1; clear HB hb hbox hg; have HB := HB'; clear HB') | ((with_reducible refine gate_dst (N := 2) rfl ?_); refine bxE (N := 2) (cs := #[.string ⟨#[]⟩, .string ⟨#[]⟩, .string ⟨#[]⟩, .int .i64 0, .bool false, .slice none 0 0, .int .i64 0, .int .u64 0, .int .i64 0, .int .i64 0]) (t := 26) fun d hg w2a2 hbox hb => ?_; have b := Aside0.mk (hbox); have GW2a1 := sE (w := w) hg; have GE2a1 := sE (w := w) hg; have U := neL a hg; have W := neG a hg; replace a := kM a hb; replace HB := bS bE hb; clear hb hbox hg; have hnb2a3 := U.out; have hnc2a3 := W.out; obtain ⟨z2a4_0, z2a4_1, z2a4_2, z2a4_3, z2a4_4, z2a4_5, z2a4_6, z2a4_7, z2a4_8, z2a4_9, zf2a4_0, zf2a4_1, zf2a4_2, zf2a4_3, zf2a4_4, zf2a4_5, zf2a4_6, zf2a4_7, zf2a4_8, zf2a4_9⟩ := bk10_ a) | (have z_ := G2; clear z_; ((with_reducible refine gate_callee (f := 18) rfl ?_); refine gL _ Tryz.func18 _ ((lockkeeperref8_Check.calls k y z x n q _ _ m r s u v t1 _ ?side1 ?side2 A2.out).mono ?_); (case side1 => exact cE); (case side2 => exact K.out); rintro e w3a1 ⟨rfl, hb⟩; refine ⟨_, rfl, ?_⟩; replace a := kM a hb; replace b := kM b hb; replace HB := bS bE hb; (try clear hb); obtain ⟨z3a2_0, z3a2_1, z3a2_2, z3a2_3, z3a2_4, z3a2_5, z3a2_6, z3a2_7, z3a2_8, z3a2_9, al, am, an, ao, ap, aq, ar, au, av, aw⟩ := bk10_ a)) | ((with_reducible refine gate_callee (f := 50) rfl ?_); refine gL _ Tryz.func50 _ ((lockkeeperref4_Parse.calls k z t2 t9 L M O _ _ A4.out).mono ?_); rintro e w4a1 ⟨rfl, hb⟩; refine ⟨_, rfl, ?_⟩; replace a := kM a hb; replace b := kM b hb; replace HB := bS bE hb; (try clear hb)) | ((with_reducible refine gate_dst (N := 3) rfl ?_); refine bxE (N := 3) (cs := #[.string ⟨#[]⟩, .string ⟨#[]⟩, .int .i64 0, .string ⟨#[]⟩, .string ⟨#[]⟩]) (t := 72) fun D hg w5a2 hbox hb => ?_; have c := Aside0.mk (hbox); have GW5a1 := sE (w := w) hg; have GE5a1 := sE (w := w) hg; have X := neL a hg; have Y := neG a hg; have Z := neL b hg; have a0 := neG b hg; replace a := kM a hb; replace b := kM b hb; replace HB := bS bE hb; clear hb hbox hg; have hnb5a3 := Y.out; have hnc5a3 := X.out; have hnb5a4 := a0.out; have hnc5a4 := Z.out; obtain ⟨z5a5_0, z5a5_1, z5a5_2, z5a5_3, z5a5_4, zf5a5_0, zf5a5_1, zf5a5_2, zf5a5_3, zf5a5_4⟩ := bk5_ c; obtain ⟨z5a6_0, z5a6_1, z5a6_2, z5a6_3, z5a6_4, z5a6_5, z5a6_6, z5a6_7, z5a6_8, z5a6_9, zf5a6_0, zf5a6_1, zf5a6_2, zf5a6_3, zf5a6_4, zf5a6_5, zf5a6_6, zf5a6_7, zf5a6_8, zf5a6_9⟩ := bk10_ a) | ((with_reducible refine gate_callee (f := 51) rfl ?_); refine gL _ Tryz.func51 _ ((lockkeeperref3_Parse.calls k x t3 ah ai _ _ A6.out).mono ?_); rintro e w6a1 ⟨rfl, hb⟩; refine ⟨_, rfl, ?_⟩; have n0_ := kF a hb; have n1_ := kF b hb; have n2_ := Aside0.mk (blk_below (g := D) (o := .cells #[.string t2, .string t9, .int .i64 L, .string M, .string O] 72 (0, 0)) (kT) hb); have n3_ := bS bE hb; clear a; clear b; clear c; clear HB; have a := n0_; have b := n1_; have c := n2_; have HB := n3_; clear n0_ n1_ n2_ n3_; (try clear hb); (try clear hb2); (try clear hk); (try clear hi)) | ((with_reducible refine gate_dst (N := 5) rfl ?_); refine bxE (N := 5) (cs := #[.string ⟨#[]⟩, .string ⟨#[]⟩, .int .i64 0]) (t := 70) fun E hg w7a2 hbox hb => ?_; have i := Aside0.mk (hbox); have GW7a1 := sE (w := w) hg; have GE7a1 := sE (w := w) hg; have a1 := neL a hg; have a2 := neG a hg; have a3 := neL b hg; have a4 := neG b hg; have a5 := neL c hg; have a6 := neG c hg; replace a := kM a hb; replace b := kM b hb; replace c := kM c hb; replace HB := bS bE hb; clear hb hbox hg; have hnb7a3 := a2.out; have hnc7a3 := a1.out; have hnb7a4 := a4.out; have hnc7a4 := a3.out; have hnb7a5 := a6.out; have hnc7a5 := a5.out; obtain ⟨z7a6_0, z7a6_1, z7a6_2, zf7a6_0, zf7a6_1, zf7a6_2⟩ := bk3_ i; obtain ⟨z7a7_0, z7a7_1, z7a7_2, z7a7_3, z7a7_4, z7a7_5, z7a7_6, z7a7_7, z7a7_8, z7a7_9, zf7a7_0, zf7a7_1, zf7a7_2, zf7a7_3, zf7a7_4, zf7a7_5, zf7a7_6, zf7a7_7, zf7a7_8, zf7a7_9⟩ := bk10_ a) | ((with_reducible refine gate_dst (N := 7) rfl ?_); refine bxE (N := 7) (cs := #[.string ⟨#[]⟩, .string ⟨#[]⟩, .string ⟨#[]⟩, .int .i64 0, .bool false, .slice none 0 0, .int .i64 0, .int .u64 0, .int .i64 0, .int .i64 0]) (t := 26) fun l hg w8a2 hbox hb => ?_; have n0_ := kF a hb; have n1_ := kF b hb; have n2_ := kF c hb; have n3_ := Aside0.mk (blk_below (g := E) (o := .cells #[.string t3, .string ah, .int .i64 ai] 70 (0, 0)) (kT) hb); have n4_ := bS bE hb; have n5_ := Aside0.mk (hbox); have n6_ := sE (w := w) hg; have n7_ := sE (w := w) hg; have n8_ := Aside0.mk ((by rw [hg]; exact Nat.ne_of_lt (blk_lt (g := G) (o := .cells #[.string y, .string z, .string x, .int .i64 n, .bool q, .slice A m.length B, .int .i64 r, .int .u64 s, .int .i64 u, .int .i64 v] 26 (0, 0)) (kT)) : G ≠ l)); have n9_ := Aside0.mk ((by rw [hg]; exact Nat.ne_of_gt (blk_lt (g := G) (o := .cells #[.string y, .string z, .string x, .int .i64 n, .bool q, .slice A m.length B, .int .i64 r, .int .u64 s, .int .i64 u, .int .i64 v] 26 (0, 0)) (kT)) : l ≠ G)); have n10_ := Aside0.mk ((by rw [hg]; exact Nat.ne_of_lt (blk_lt (g := d) (o := .cells #[.string ⟨#[]⟩, .string ⟨#[]⟩, .string ⟨#[]⟩, .int .i64 0, .bool false, .slice none 0 0, .int .i64 0, .int .u64 0, .int .i64 0, .int .i64 0] 26 (0, 0)) (kT)) : d ≠ l)); have n11_ := Aside0.mk ((by rw [hg]; exact Nat.ne_of_gt (blk_lt (g := d) (o := .cells #[.string ⟨#[]⟩, .string ⟨#[]⟩, .string ⟨#[]⟩, .int .i64 0, .bool false, .slice none 0 0, .int .i64 0, .int .u64 0, .int .i64 0, .int .i64 0] 26 (0, 0)) (kT)) : l ≠ d)); have n12_ := Aside0.mk ((by rw [hg]; exact Nat.ne_of_lt (blk_lt (g := D) (o := .cells #[.string t2, .string t9, .int .i64 L, .string M, .string O] 72 (0, 0)) (kT)) : D ≠ l)); have n13_ := Aside0.mk ((by rw [hg]; exact Nat.ne_of_gt (blk_lt (g := D) (o := .cells #[.string t2, .string t9, .int .i64 L, .string M, .string O] 72 (0, 0)) (kT)) : l ≠ D)); have n14_ := Aside0.mk ((by rw [hg]; exact Nat.ne_of_lt (blk_lt (g := E) (o := .cells #[.string t3, .string ah, .int .i64 ai] 70 (0, 0)) (kT)) : E ≠ l)); have n15_ := Aside0.mk ((by rw [hg]; exact Nat.ne_of_gt (blk_lt (g := E) (o := .cells #[.string t3, .string ah, .int .i64 ai] 70 (0, 0)) (kT)) : l ≠ E)); clear a; clear b; clear c; clear i; clear HB; have a := n0_; have b := n1_; have c := n2_; have i := n3_; have HB := n4_; have j := n5_; have GW8a1 := n6_; have GE8a1 := n7_; have a7 := n8_; have a8 := n9_; have a9 := n10_; have aa := n11_; have ab := n12_; have ac := n13_; have ad := n14_; have ae := n15_; clear n0_ n1_ n2_ n3_ n4_ n5_ n6_ n7_ n8_ n9_ n10_ n11_ n12_ n13_ n14_ n15_; clear hb hbox hg; have hnb8a3 := a8.out; have hnc8a3 := a7.out; have hnb8a4 := aa.out; have hnc8a4 := a9.out; have hnb8a5 := ac.out; have hnc8a5 := ab.out; have hnb8a6 := ae.out; have hnc8a6 := ad.out; obtain ⟨z8a7_0, z8a7_1, z8a7_2, z8a7_3, z8a7_4, z8a7_5, z8a7_6, z8a7_7, z8a7_8, z8a7_9, zf8a7_0, zf8a7_1, zf8a7_2, zf8a7_3, zf8a7_4, zf8a7_5, zf8a7_6, zf8a7_7, zf8a7_8, zf8a7_9⟩ := bk10_ j; obtain ⟨z8a8_0, z8a8_1, z8a8_2, z8a8_3, z8a8_4, z8a8_5, z8a8_6, z8a8_7, z8a8_8, z8a8_9, zf8a8_0, zf8a8_1, zf8a8_2, zf8a8_3, zf8a8_4, zf8a8_5, zf8a8_6, zf8a8_7, zf8a8_8, zf8a8_9⟩ := bk10_ a) | ((with_reducible refine gate_callee (f := 61) rfl ?_); refine gL _ Tryz.func61 _ ((lockkeeperref5_Norm.calls y _ _ A7.out).mono ?_); rintro e w9a1 ⟨rfl, hb⟩; refine ⟨_, rfl, ?_⟩; have n0_ := kF a hb; have n1_ := kF b hb; have n2_ := kF c hb; have n3_ := kF i hb; have n4_ := Aside0.mk (blk_below (g := l) (o := .cells #[.string y, .string z, .string x, .int .i64 n, .bool q, .slice A m.length B, .int .i64 r, .int .u64 s, .int .i64 u, .int .i64 v] 26 (0, 0)) (kT) hb); have n5_ := bS bE hb; clear a; clear b; clear c; clear i; clear j; clear HB; have a := n0_; have b := n1_; have c := n2_; have i := n3_; have j := n4_; have HB := n5_; clear n0_ n1_ n2_ n3_ n4_ n5_; (try clear hb); (try clear hb2); (try clear hk); (try clear hi); obtain ⟨z9a2_0, z9a2_1, z9a2_2, z9a2_3, z9a2_4, z9a2_5, z9a2_6, z9a2_7, z9a2_8, z9a2_9, zf9a2_0, zf9a2_1, zf9a2_2, zf9a2_3, zf9a2_4, zf9a2_5, zf9a2_6, zf9a2_7, zf9a2_8, zf9a2_9⟩ := bk10_ j; obtain ⟨z9a3_0, z9a3_1, z9a3_2, z9a3_3, z9a3_4, zf9a3_0, zf9a3_1, zf9a3_2, zf9a3_3, zf9a3_4⟩ := bk5_ c) | ((with_reducible refine gate_callee (f := 62) rfl ?_); refine gL _ Tryz.func62 _ ((lockkeeperref4_Show.calls k t2 t9 L M O _ _ A8.out).mono ?_); rintro e w10a1 ⟨rfl, hb⟩; refine ⟨_, rfl, ?_⟩; have n0_ := kF a hb; have n1_ := kF b hb; have n2_ := kF c hb; have n3_ := kF i hb; have n4_ := Aside0.mk (blk_below (g := l) (o := .cells #[.string t4, .string z, .string x, .int .i64 n, .bool q, .slice A m.length B, .int .i64 r, .int .u64 s, .int .i64 u, .int .i64 v] 26 (0, 0)) (kT) hb); have n5_ := bS bE hb; clear a; clear b; clear c; clear i; clear j; clear HB; have a := n0_; have b := n1_; have c := n2_; have i := n3_; have j := n4_; have HB := n5_; clear n0_ n1_ n2_ n3_ n4_ n5_; (try clear hb); (try clear hb2); (try clear hk); (try clear hi); obtain ⟨z10a2_0, z10a2_1, z10a2_2, z10a2_3, z10a2_4, z10a2_5, z10a2_6, z10a2_7, z10a2_8, z10a2_9, zf10a2_0, zf10a2_1, zf10a2_2, zf10a2_3, zf10a2_4, zf10a2_5, zf10a2_6, zf10a2_7, zf10a2_8, zf10a2_9⟩ := bk10_ j; obtain ⟨z10a3_0, z10a3_1, z10a3_2, zf10a3_0, zf10a3_1, zf10a3_2⟩ := bk3_ i) | ((with_reducible refine gate_callee (f := 63) rfl ?_); refine gL _ Tryz.func63 _ ((lockkeeperref3_Show.calls k t3 ah ai _ _ A9.out).mono ?_); rintro e w11a1 ⟨rfl, hb⟩; refine ⟨_, rfl, ?_⟩; have n0_ := kF a hb; have n1_ := kF b hb; have n2_ := kF c hb; have n3_ := kF i hb; have n4_ := Aside0.mk (blk_below (g := l) (o := .cells #[.string t4, .string t6, .string x, .int .i64 n, .bool q, .slice A m.length B, .int .i64 r, .int .u64 s, .int .i64 u, .int .i64 v] 26 (0, 0)) (kT) hb); have n5_ := bS bE hb; clear a; clear b; clear c; clear i; clear j; clear HB; have a := n0_; have b := n1_; have c := n2_; have i := n3_; have j := n4_; have HB := n5_; clear n0_ n1_ n2_ n3_ n4_ n5_; (try clear hb); (try clear hb2); (try clear hk); (try clear hi); obtain ⟨z11a2_0, z11a2_1, z11a2_2, z11a2_3, z11a2_4, z11a2_5, z11a2_6, z11a2_7, z11a2_8, z11a2_9, zf11a2_0, zf11a2_1, zf11a2_2, zf11a2_3, zf11a2_4, zf11a2_5, zf11a2_6, zf11a2_7, zf11a2_8, zf11a2_9⟩ := bk10_ j; obtain ⟨z11a3_0, z11a3_1, z11a3_2, z11a3_3, z11a3_4, z11a3_5, z11a3_6, z11a3_7, z11a3_8, z11a3_9, zf11a3_0, zf11a3_1, zf11a3_2, zf11a3_3, zf11a3_4, zf11a3_5, zf11a3_6, zf11a3_7, zf11a3_8, zf11a3_9⟩ := bk10_ a) | ((with_reducible refine gate_callee (f := 64) rfl ?_); refine gL _ Tryz.func64 _ ((lockkeeperref6_Norm.calls k _ _ m t8 _ ?side1 ?side2 A10.out).mono ?_); (case side1 => exact Kd.C_below HR1_5.out bE); (case side2 => exact K.out); rintro e w12a1 ⟨v12a2, rfl, af, hb⟩; refine ⟨_, rfl, ?_⟩; have n0_ := Aside0.mk (Kd.R_lower af (below_size bE)); have n1_ := kF a hb; have n2_ := kF b hb; have n3_ := kF c hb; have n4_ := kF i hb; have n5_ := Aside0.mk (blk_below (g := l) (o := .cells #[.string t4, .string t6, .string t7, .int .i64 n, .bool q, .slice A m.length B, .int .i64 r, .int .u64 s, .int .i64 u, .int .i64 v] 26 (0, 0)) (kT) hb); have n6_ := bS bE hb; clear a; clear b; clear c; clear i; clear j; clear HB; have ag := n0_; have a := n1_; have b := n2_; have c := n3_; have i := n4_; have j := n5_; have HB := n6_; clear n0_ n1_ n2_ n3_ n4_ n5_ n6_; (try clear hb); (try clear hb2); (try clear hk); (try clear hi); (try clear af); obtain ⟨I, J, eo12a5⟩ := Kd.R_slice ag.out; subst eo12a5; obtain ⟨z12a6_0, z12a6_1, z12a6_2, z12a6_3, z12a6_4, z12a6_5, z12a6_6, z12a6_7, z12a6_8, z12a6_9, zf12a6_0, zf12a6_1, zf12a6_2, zf12a6_3, zf12a6_4, zf12a6_5, zf12a6_6, zf12a6_7, zf12a6_8, zf12a6_9⟩ := bk10_ j; obtain ⟨z12a7_0, z12a7_1, z12a7_2, z12a7_3, z12a7_4, z12a7_5, z12a7_6, z12a7_7, z12a7_8, z12a7_9, zf12a7_0, zf12a7_1, zf12a7_2, zf12a7_3, zf12a7_4, zf12a7_5, zf12a7_6, zf12a7_7, zf12a7_8, zf12a7_9⟩ := bk10_ b) | (have z_ := G3; clear z_; ((with_reducible refine gate_callee (f := 18) rfl ?_); refine gL _ Tryz.func18 _ ((lockkeeperref8_Check.calls k y z x n q _ _ m r s u v t1 _ ?side1 ?side2 A2.out).mono ?_); (case side1 => exact cE); (case side2 => exact K.out); rintro e w3a1 ⟨rfl, hb⟩; refine ⟨_, rfl, ?_⟩; replace a := kM a hb; replace b := kM b hb; replace HB := bS bE hb; (try clear hb); obtain ⟨z3a2_0, z3a2_1, z3a2_2, z3a2_3, z3a2_4, z3a2_5, z3a2_6, z3a2_7, z3a2_8, z3a2_9, al, am, an, ao, ap, aq, ar, au, av, aw⟩ := bk10_ b)))
  first
  | clear M4_0
    refine bodyPost_ret (results_cell_row rfl _ _ d 26 #[.string t4, .string t6, .string t7, .int .i64 n, .bool q, .slice I t8.length J, .int .i64 r, .int .u64 s, .int .i64 u, .int .i64 v] (0, 0) _ rfl (kT) Tryz.underlying26 rfl (by kernel_rfl)) rfl ?_; exact ⟨_, rE, by (with_reducible repeat (first | apply Kd.R_alloc | apply Kd.R_drewN | apply Kd.R_drew)); exact Kd.R_mono (Kd.R_far (p := ⟨d, 9, none⟩) (Kd.R_far (p := ⟨d, 8, none⟩) (Kd.R_far (p := ⟨d, 7, none⟩) (Kd.R_far (p := ⟨d, 6, none⟩) (Kd.R_far (p := ⟨d, 5, none⟩) (Kd.R_far (p := ⟨d, 4, none⟩) (Kd.R_far (p := ⟨d, 3, none⟩) (Kd.R_far (p := ⟨d, 2, none⟩) (Kd.R_far (p := ⟨d, 1, none⟩) (Kd.R_far (p := ⟨d, 0, none⟩) (Kd.R_far (p := ⟨l, 5, none⟩) (Kd.R_types (Kd.R_types ag.out j.out (by decide)) b.out (by decide)) (fun _ hk => hk.1.2) (.slice I t8.length J)) (fun _ hk => hk.2) (.string t4)) (fun _ hk => hk.2) (.string t6)) (fun _ hk => hk.2) (.string t7)) (fun _ hk => hk.2) (.int .i64 n)) (fun _ hk => hk.2) (.bool q)) (fun _ hk => hk.2) (.slice I t8.length J)) (fun _ hk => hk.2) (.int .i64 r)) (fun _ hk => hk.2) (.int .u64 s)) (fun _ hk => hk.2) (.int .i64 u)) (fun _ hk => hk.2) (.int .i64 v)) (fun _ hk => trivial), bE⟩
  | clear M4_1
    refine bodyPost_ret (results_cell_row rfl _ _ d 26 #[.string ⟨#[]⟩, .string ⟨#[]⟩, .string ⟨#[]⟩, .int .i64 0, .bool false, .slice none 0 0, .int .i64 0, .int .u64 0, .int .i64 0, .int .i64 0] (0, 0) _ rfl (kT) Tryz.underlying26 rfl (by kernel_rfl)) rfl ?_; exact ⟨_, rE, by first | exact Kd.R_nil _ _ _ _ _ | exact Kd.N_nil _ _ _ _ _ | exact Kd.V_nil _ _ _ _ _ | exact Kd.Q_nil _ _ _ _ _ | exact Kd.S_nil _ _ _ _ _, bE⟩
def lockkeeperref8_Cross.f (k : Nat) (e c d : ByteArray) (g : Int) (i : Bool) (j : List (S28)) (l m n o : Int) : Option (Bool) := (lockkeeperref4_Parse.f k c).bind fun a => ((lockkeeperref3_Parse.f k d).bind fun b => ((lockkeeperref8_Check.f k e c d g i j l m n o).bind fun p => (if p = 0 then (some (!(a.1.toList == b.1.toList) || (!(a.2.1.toList == b.2.1.toList) || (!(a.2.2.1 == b.2.2.1))))) else (some false))))
theorem lockkeeperref8_Cross.mono : ∀ a b c d e g i j l m k, LeO (lockkeeperref8_Cross.f k a b c d e g i j l m) (lockkeeperref8_Cross.f (k + 1) a b c d e g i j l m) := by
 intro a b c d e g i j l m k
 have n := @lockkeeperref3_Parse.mono; have o := @lockkeeperref4_Parse.mono; have p := @lockkeeperref8_Check.mono; unfold lockkeeperref8_Cross.f
 exact moE
theorem lockkeeperref8_Cross.calls (k : Nat) (j i d : ByteArray) (l : Int) (m : Bool) (D : Option Addr) (E : Nat) (c : List (S28)) (n p q s : Int) (r : Bool) (w : World) (G : Kd.C k28 w D c.length c) (I : c.length ≤ E) (h : lockkeeperref8_Cross.f k j i d l m c n p q s = some r) :
  Calls Tryz.prog 22 #[.agg #[.string j, .string i, .string d, .int .i64 l, .bool m, .slice D c.length E, .int .i64 n, .int .u64 p, .int .i64 q, .int .i64 s]] w fun e w' => e = .returned (.bool r) ∧ Below w.heap.size w w' := by
 have hu26 := Tryz.underlying26; have hu72 := Tryz.underlying72; have hu70 := Tryz.underlying70; have J := Aside0.mk G; have K := Aside0.mk I; clear G I; have HB := Aside0.mk (Below.refl w.heap.size w); have H := h; clear h; unfold lockkeeperref8_Cross.f at H; replace H := bd_ H; obtain ⟨⟨t1, t4, t5, t6, t7, t8⟩, A2, H⟩ := H; replace H : ((lockkeeperref3_Parse.f k d).bind fun L => ((lockkeeperref8_Check.f k j i d l m c n p q s).bind fun X => (if X = 0 then (some (!(t1.toList == L.1.toList) || (!(t4.toList == L.2.1.toList) || (!(t5 == L.2.2.1))))) else (some false)))) = some r := H; replace H := bd_ H; obtain ⟨⟨t2, t9, M, t11⟩, A3, H⟩ := H; replace H : ((lockkeeperref8_Check.f k j i d l m c n p q s).bind fun X => (if X = 0 then (some (!(t1.toList == t2.toList) || (!(t4.toList == t9.toList) || (!(t5 == M))))) else (some false))) = some r := H; replace H := bd_ H; obtain ⟨X, A4, H⟩ := H; revert H; refine iteEF_ (fun Y Z H => ?g1p) (fun c5 Y Z H => ?g1n)
 case' g1p =>
  obtain rfl := si_ H
 case' g1n =>
  obtain rfl := si_ H
 all_goals
  go_enter Tryz.func22, Tryz.ntmps22; go_wp2_with (first | ((with_reducible refine gate_dst (N := 1) rfl ?_); refine bxE (N := 1) (cs := #[.string j, .string i, .string d, .int .i64 l, .bool m, .slice D c.length E, .int .i64 n, .int .u64 p, .int .i64 q, .int .i64 s]) (t := 26) fun gb1a1 hg w1a2 hbox hb => ?_; obtain ⟨HB', a, O⟩ := bx_ bE hg hbox hb; have GE1a1 := O; clear HB hb hbox hg; have HB := HB'; clear HB'; obtain ⟨z1a3_0, z1a3_1, z1a3_2, z1a3_3, z1a3_4, z1a3_5, z1a3_6, z1a3_7, z1a3_8, z1a3_9, a0, a1, a2, a3, a4, a5, a6, a7, a8, a9⟩ := bk10_ a) | ((with_reducible refine gate_callee (f := 50) rfl ?_); refine gL _ Tryz.func50 _ ((lockkeeperref4_Parse.calls k i t1 t4 t5 t6 t7 _ _ A2.out).mono ?_); rintro e w2a1 ⟨rfl, hb⟩; refine ⟨_, rfl, ?_⟩; replace a := kM a hb; replace HB := bS bE hb; (try clear hb)) | ((with_reducible refine gate_dst (N := 3) rfl ?_); refine bxE (N := 3) (cs := #[.string ⟨#[]⟩, .string ⟨#[]⟩, .int .i64 0, .string ⟨#[]⟩, .string ⟨#[]⟩]) (t := 72) fun U hg w3a2 hbox hb => ?_; have b := Aside0.mk (hbox); have GW3a1 := sE (w := w) hg; have GE3a1 := sE (w := w) hg; have v := neL a hg; have x := neG a hg; replace a := kM a hb; replace HB := bS bE hb; clear hb hbox hg; have hnb3a3 := x.out; have hnc3a3 := v.out; obtain ⟨z3a4_0, z3a4_1, z3a4_2, z3a4_3, z3a4_4, aa, ab, ac, ad, ae⟩ := bk5_ b; obtain ⟨z3a5_0, z3a5_1, z3a5_2, z3a5_3, z3a5_4, z3a5_5, z3a5_6, z3a5_7, z3a5_8, z3a5_9, af, ag, ah, ai, aj, ak, al, am, an, ao⟩ := bk10_ a) | ((with_reducible refine gate_callee (f := 51) rfl ?_); refine gL _ Tryz.func51 _ ((lockkeeperref3_Parse.calls k d t2 t9 M _ _ A3.out).mono ?_); rintro e w4a1 ⟨rfl, hb⟩; refine ⟨_, rfl, ?_⟩; have n0_ := kF a hb; have n1_ := Aside0.mk (blk_below (g := U) (o := .cells #[.string t1, .string t4, .int .i64 t5, .string t6, .string t7] 72 (0, 0)) (kT) hb); have n2_ := bS bE hb; clear a; clear b; clear HB; have a := n0_; have b := n1_; have HB := n2_; clear n0_ n1_ n2_; (try clear hb); (try clear hb2); (try clear hk); (try clear hi)) | ((with_reducible refine gate_dst (N := 5) rfl ?_); refine bxE (N := 5) (cs := #[.string ⟨#[]⟩, .string ⟨#[]⟩, .int .i64 0]) (t := 70) fun W hg w5a2 hbox hb => ?_; have u := Aside0.mk (hbox); have GW5a1 := sE (w := w) hg; have GE5a1 := sE (w := w) hg; have y := neL a hg; have z := neG a hg; have A := neL b hg; have B := neG b hg; replace a := kM a hb; replace b := kM b hb; replace HB := bS bE hb; clear hb hbox hg; have hnb5a3 := z.out; have hnc5a3 := y.out; have hnb5a4 := B.out; have hnc5a4 := A.out; obtain ⟨z5a5_0, z5a5_1, z5a5_2, ap, aq, ar⟩ := bk3_ u; obtain ⟨z5a6_0, z5a6_1, z5a6_2, z5a6_3, z5a6_4, z5a6_5, z5a6_6, z5a6_7, z5a6_8, z5a6_9, au, av, aw, ax, ay, az, aA, aB, aC, aD⟩ := bk10_ a) | ((with_reducible refine gate_callee (f := 18) rfl ?_); refine gL _ Tryz.func18 _ ((lockkeeperref8_Check.calls k j i d l m _ _ c n p q s X _ ?side1 ?side2 A4.out).mono ?_); (case side1 => exact Kd.C_below J.out bE); (case side2 => exact K.out); rintro e w6a1 ⟨rfl, hb⟩; refine ⟨_, rfl, ?_⟩; have n0_ := kF a hb; have n1_ := kF b hb; have n2_ := Aside0.mk (blk_below (g := W) (o := .cells #[.string t2, .string t9, .int .i64 M] 70 (0, 0)) (kT) hb); have n3_ := bS bE hb; clear a; clear b; clear u; clear HB; have a := n0_; have b := n1_; have u := n2_; have HB := n3_; clear n0_ n1_ n2_ n3_; (try clear hb); (try clear hb2); (try clear hk); (try clear hi); obtain ⟨z6a2_0, z6a2_1, z6a2_2, z6a2_3, z6a2_4, aE, aF, aG, aH, aI⟩ := bk5_ b; obtain ⟨z6a3_0, z6a3_1, z6a3_2, aJ, aK, aL⟩ := bk3_ u)); go_ret; exact ⟨rE, bE⟩
def lockkeeperlaw0_Texts.l0 : Nat → List ByteArray → List ByteArray → Int → Option (Bool)
 | 0, _, _, _ => none
 | k + 1, b, c, a => if a < (b.length : Int) then (if 0 ≤ a then (if a < (c.length : Int) then (if (rdOf ByteArray.empty b a).toList = (rdOf ByteArray.empty c a).toList then (lockkeeperlaw0_Texts.l0 k b c (wrap64 (a + 1))) else (some false)) else (none)) else (none)) else (some true)
def lockkeeperlaw0_Texts.f (k : Nat) (l0 l1 : List ByteArray) : Option (Bool) := if (l0.length : Int) = (l1.length : Int) then (lockkeeperlaw0_Texts.l0 k l0 l1 0) else (some false)
theorem lockkeeperlaw0_Texts.mono_l : ∀ k, (∀ a b c, LeO (lockkeeperlaw0_Texts.l0 k a b c) (lockkeeperlaw0_Texts.l0 (k + 1) a b c))
 | 0 => fun _ _ _ r h => by simp [lockkeeperlaw0_Texts.l0] at h
 | k + 1 => by
  have ih0 := lockkeeperlaw0_Texts.mono_l k
  ·intros
   unfold lockkeeperlaw0_Texts.l0
   exact moE
theorem lockkeeperlaw0_Texts.mono : ∀ a b k, LeO (lockkeeperlaw0_Texts.f k a b) (lockkeeperlaw0_Texts.f (k + 1) a b) := by
 intro a b k
 have ih0 := lockkeeperlaw0_Texts.mono_l k
 unfold lockkeeperlaw0_Texts.f
 exact moE
theorem lockkeeperlaw0_Texts.calls (k : Nat) (O : Option Addr) (U : Nat) (l0 : List ByteArray) (W : Option Addr) (X : Nat) (l1 : List ByteArray) (r : Bool) (w : World) (q : Kd.C Kd.string w O l0.length l0) (s : l0.length ≤ U) (t : Kd.C Kd.string w W l1.length l1) (u : l1.length ≤ X) (h : lockkeeperlaw0_Texts.f k l0 l1 = some r) :
  Calls Tryz.prog 23 #[.slice O l0.length U, .slice W l1.length X] w fun e w' => e = .returned (.bool r) ∧ Drawn0 w w' := by
 have v := Aside0.mk q; have a0 := Aside0.mk s; clear q s; have x := Aside0.mk t; have a1 := Aside0.mk u; clear t u; have H := h; clear h; unfold lockkeeperlaw0_Texts.f at H; revert H; refine iteFF_ (fun p l m H => ?g1p) (fun p l m H => ?g1n)
 case' g1p =>
  have n : (l0.length == l1.length) = true := by first | simpa using p | (simp at p ⊢; omega)
  clear p; have H' := Aside0.mk H; clear H; have y := trivial
 case' g1n =>
  have n : (l0.length == l1.length) = false := by first | simpa using p | (simp at p ⊢; omega)
  obtain rfl := si_ H; have z := trivial
 all_goals
  go_enter Tryz.func23, Tryz.ntmps23; go_wp2
  repeat (go_quiet (fail); try go_wp2)
  first
  | clear y
    go_loopg [5] k (fun kq A w' => ∃ (a : Int), A = .int .i64 a ∧ Aside0 (lockkeeperlaw0_Texts.l0 kq l0 l1 a = some r) ∧ Aside0 (kq ≤ k) ∧ Drawn0 w w')
    case atStart => exact ⟨(0), rS, H', ⟨Nat.le_refl _⟩, dE⟩
    case round =>
     clear H'; (try clear p); (try clear l); (try clear m); (try clear n); obtain ⟨a, rfl, HA, B, ⟨m1, rfl⟩⟩ := hrel
     cases gk with
     | zero => exact absurd HA.out (by simp [lockkeeperlaw0_Texts.l0])
     | succ k1 =>
      have H := HA.out; clear HA
      simp only [lockkeeperlaw0_Texts.l0] at H
      revert H; refine iteDD_ (fun D H => ?g3p) (fun D H => ?g3n)
      case' g3p =>
       revert H; refine iteND_ fun Y => iteND_ fun Z => iteEF_ (fun E G H => ?g4p) (fun c9 E G H => ?g4n)
       case' g4p =>
        have H' := Aside0.mk H; clear H; have b : 0 ≤ (a : Int) := of_decide_eq_true mE; have c : a < (l0.length : Int) := of_decide_eq_true mE; obtain ⟨I, L, i⟩ := Kd.at_string v.out a b c
        cases L
        replace b := eq_true b; replace c := eq_true c; have d : 0 ≤ (a : Int) := of_decide_eq_true mE; have g : a < (l1.length : Int) := of_decide_eq_true mE; obtain ⟨J, M, j⟩ := Kd.at_string x.out a d g
        cases M
        replace d := eq_true d; replace g := eq_true g; have K := trivial
       case' g4n =>
        obtain rfl := si_ H; have b : 0 ≤ (a : Int) := of_decide_eq_true mE; have c : a < (l0.length : Int) := of_decide_eq_true mE; obtain ⟨I, L, i⟩ := Kd.at_string v.out a b c
        cases L
        replace b := eq_true b; replace c := eq_true c; have d : 0 ≤ (a : Int) := of_decide_eq_true mE; have g : a < (l1.length : Int) := of_decide_eq_true mE; obtain ⟨J, M, j⟩ := Kd.at_string x.out a d g
        cases M
        replace d := eq_true d; replace g := eq_true g; have o := trivial
      case' g3n =>
       obtain rfl := si_ H; have o := trivial
      all_goals
       go_wp2
       repeat (go_quiet (fail); try go_wp2)
       first
       | clear K
         go_roundg k1
         case measure => have := B.out; omega
         case rel => exact ⟨(wrap64 (a + 1)), rS, H', ⟨by have := B.out; omega⟩, dE⟩
       | clear o
         go_ret; exact ⟨rS, dE⟩
  | clear z
    go_ret; exact ⟨rS, dE⟩
def ask_Names.f (k : Nat) (b c d : ByteArray) (e : Int) (g : Bool) (a : List (S28)) (i j l m : Int) : Option (List ByteArray) := (ask_Check.f k b c d e g a i j l m).bind fun n => (if n = 0 then ((safe_Names.f k a).bind fun o => (some o)) else (some ([] : List ByteArray)))
theorem ask_Names.mono : ∀ a b c d e g i j l m k, LeO (ask_Names.f k a b c d e g i j l m) (ask_Names.f (k + 1) a b c d e g i j l m) := by
 intro a b c d e g i j l m k
 have n := @ask_Check.mono; have o := @safe_Names.mono; unfold ask_Names.f
 exact moE
theorem ask_Names.calls (k : Nat) (c d g : ByteArray) (i : Int) (j : Bool) (p : Option Addr) (q : Nat) (b : List (S28)) (l m n o : Int) (r : List ByteArray) (w : World) (s : Kd.C k28 w p b.length b) (u : b.length ≤ q) (hM_ : Aside0 (LaidW w)) (h : ask_Names.f k c d g i j b l m n o = some r) :
  Calls Tryz.prog 24 #[.agg #[.string c, .string d, .string g, .int .i64 i, .bool j, .slice p b.length q, .int .i64 l, .int .u64 m, .int .i64 n, .int .i64 o]] w fun e w' => ∃ A : Value, e = .returned (A) ∧ Kd.R Kd.string 9 w' w.heap.size (fun _ => True) A r ∧ Below w.heap.size w w' := by
 have ay := Tryz.underlying26; have av := Aside0.mk s; have v := Aside0.mk u; clear s u; have HB := Aside0.mk (Below.refl w.heap.size w); have H := h; clear h; unfold ask_Names.f at H; replace H := bd_ H; obtain ⟨t1, A2, H⟩ := H; revert H; refine iteEF_ (fun B D H => ?g1p) (fun c3 B D H => ?g1n)
 case' g1p =>
  replace H := bd_ H; obtain ⟨t2, A4, H⟩ := H; obtain rfl := si_ H; have E := trivial
 case' g1n =>
  obtain rfl := si_ H; have G := trivial
 all_goals
  go_enter Tryz.func24, Tryz.ntmps24; go_wp2_with (first | ((with_reducible refine gate_dst (N := 1) rfl ?_); refine bxE (N := 1) (cs := #[.string c, .string d, .string g, .int .i64 i, .bool j, .slice p b.length q, .int .i64 l, .int .u64 m, .int .i64 n, .int .i64 o]) (t := 26) fun aw hg az hbox hb => ?_; obtain ⟨HB', a, y⟩ := bx_ bE hg hbox hb; have ax := y; clear HB hb hbox hg; have HB := HB'; clear HB'; obtain ⟨a9, aa, ab, ac, ad, ae, af, ag, ah, ai, I, J, K, L, M, O, U, W, X, Y⟩ := bk10_ a) | ((with_reducible refine gate_callee (f := 13) rfl ?_); refine gL _ Tryz.func13 _ ((ask_Check.calls k c d g i j _ _ b l m n o t1 _ ?side1 ?side2 ?side3 A2.out).mono ?_); (case side1 => exact cE); (case side2 => exact v.out); (case side3 => exact ⟨lE⟩); rintro e aA ⟨rfl, hb⟩; refine ⟨_, rfl, ?_⟩; replace a := kM a hb; replace HB := bS bE hb; (try clear hb); obtain ⟨aj, ak, al, am, an, ao, ap, aq, ar, au, Z, a0, a1, a2, a3, a4, a5, a6, a7, a8⟩ := bk10_ a) | ((with_reducible refine gate_callee (f := 65) rfl ?_); refine gL _ Tryz.func65 _ ((safe_Names.calls k _ _ b t2 _ ?side1 ?side2 ?side3 A4.out).mono ?_); (case side1 => exact cE); (case side2 => exact v.out); (case side3 => exact ⟨lE⟩); rintro e aB ⟨aC, rfl, x, hb⟩; refine ⟨_, rfl, ?_⟩; have n0_ := Aside0.mk (Kd.R_lower x (below_size bE)); have n1_ := kM a hb; have n2_ := bS bE hb; clear a; clear HB; have z := n0_; have a := n1_; have HB := n2_; clear n0_ n1_ n2_; (try clear hb); (try clear hb2); (try clear hk); (try clear hi); (try clear x))); go_ret
  first
  | clear E
    exact ⟨_, rE, by (with_reducible repeat (first | apply Kd.R_alloc | apply Kd.R_drewN | apply Kd.R_drew)); exact z.out, bE⟩
  | clear G
    exact ⟨_, rE, by first | exact Kd.R_nil _ _ _ _ _ | exact Kd.N_nil _ _ _ _ _ | exact Kd.V_nil _ _ _ _ _ | exact Kd.Q_nil _ _ _ _ _ | exact Kd.S_nil _ _ _ _ _, bE⟩
end Go.Proofs.YtfmajangcbgooaaGreatDoor.Pr
