
/- flight.Grants, of a request that needs a preflight and an answer of some age: walked by hand. -/
import Derived.Test.YtfmajangcbgooaaGreatDoorG17
import Derived.Test.YtfmajangcbgooaaGreatDoorG5
import Derived.Test.YtfmajangcbgooaaGreatDoorPr15
import Derived.Test.YtfmajangcbgooaaGreatDoorPr13
import Derived.Test.YtfmajangcbgooaaGreatDoorPr18
namespace Go.Proofs.YtfmajangcbgooaaGreatDoor.Pr
open Go.RowKit Go.Proofs.YtfmajangcbgooaaGreatDoorW.PrintWords Go.Proofs.YtfmajangcbgooaaGreatDoorW.PrintLast Go.Proofs.YtfmajangcbgooaaGreatDoorW.PrintMore
set_option linter.unusedVariables false
set_option linter.unusedSimpArgs false
set_option maxHeartbeats 16000000
set_option maxRecDepth 100000
def rowM (c1 c2 : ByteArray) (c3 : Bool) (un : Int) (ms : List ByteArray) (xs : List S64) : List S64 := ms.foldl (fun xs m => addE xs ⟨⟨c1, c2, c3⟩, m, ⟨#[]⟩, un⟩) xs
def rowH (c1 c2 : ByteArray) (c3 : Bool) (un : Int) (hs : List ByteArray) (xs : List S64) : List S64 := hs.foldl (fun xs h => addE xs ⟨⟨c1, c2, c3⟩, ⟨#[]⟩, h, un⟩) xs
theorem addE_len (xs : List S64) (e : S64) : (addE xs e).length ≤ xs.length + 1 := by
  unfold addE
  split
  · omega
  · simp
theorem rowM_len (c1 c2 : ByteArray) (c3 : Bool) (un : Int) (ms : List ByteArray) : ∀ xs, (rowM c1 c2 c3 un ms xs).length ≤ xs.length + ms.length := by
  induction ms with
  | nil => exact fun xs => by simp [rowM]
  | cons m r ih =>
    intro xs
    have h1 := ih (addE xs ⟨⟨c1, c2, c3⟩, m, ⟨#[]⟩, un⟩)
    have h2 := addE_len xs ⟨⟨c1, c2, c3⟩, m, ⟨#[]⟩, un⟩
    show (rowM c1 c2 c3 un r (addE xs ⟨⟨c1, c2, c3⟩, m, ⟨#[]⟩, un⟩)).length ≤ _
    rw [List.length_cons]
    omega
theorem rowH_len (c1 c2 : ByteArray) (c3 : Bool) (un : Int) (ms : List ByteArray) : ∀ xs, (rowH c1 c2 c3 un ms xs).length ≤ xs.length + ms.length := by
  induction ms with
  | nil => exact fun xs => by simp [rowH]
  | cons m r ih =>
    intro xs
    have h1 := ih (addE xs ⟨⟨c1, c2, c3⟩, ⟨#[]⟩, m, un⟩)
    have h2 := addE_len xs ⟨⟨c1, c2, c3⟩, ⟨#[]⟩, m, un⟩
    show (rowH c1 c2 c3 un r (addE xs ⟨⟨c1, c2, c3⟩, ⟨#[]⟩, m, un⟩)).length ≤ _
    rw [List.length_cons]
    omega
theorem rowM_snoc (c1 c2 : ByteArray) (c3 : Bool) (un : Int) (ms : List ByteArray) (i : Nat) (h : i < ms.length) (xs : List S64) : rowM c1 c2 c3 un (ms.take (i + 1)) xs = addE (rowM c1 c2 c3 un (ms.take i) xs) ⟨⟨c1, c2, c3⟩, ms[i], ⟨#[]⟩, un⟩ := by
  unfold rowM
  rw [List.take_succ_eq_append_getElem h, List.foldl_append]
  rfl
theorem rowH_snoc (c1 c2 : ByteArray) (c3 : Bool) (un : Int) (ms : List ByteArray) (i : Nat) (h : i < ms.length) (xs : List S64) : rowH c1 c2 c3 un (ms.take (i + 1)) xs = addE (rowH c1 c2 c3 un (ms.take i) xs) ⟨⟨c1, c2, c3⟩, ⟨#[]⟩, ms[i], un⟩ := by
  unfold rowH
  rw [List.take_succ_eq_append_getElem h, List.foldl_append]
  rfl
theorem fld26_0 (a b c d e f g h i j : Value) (w : World) : (Instr.field 26 (.agg #[a, b, c, d, e, f, g, h, i, j]) 0).run Tryz.prog w = .ok a w := by kernel_rfl
theorem one_C {W : World} {g : Nat} {x : ByteArray} (h : W.heap[g]? = some (.cells #[.string x] 9 (0, 0))) : Kd.C Kd.string W (some ⟨g, 0, none⟩) [x].length [x] := by
  refine ⟨rfl, by simp, fun _ => ⟨_, rfl, fun j p hj => ?_⟩⟩
  obtain ⟨hl, hp⟩ := List.getElem?_eq_some_iff.1 hj
  have hj0 : j = 0 := by simp only [List.length_cons, List.length_nil] at hl; omega
  subst hj0
  obtain rfl : x = p := by simpa using hp
  refine ⟨[.string x], rfl, rfl, fun i u hu => ?_⟩
  obtain ⟨hl, hp⟩ := List.getElem?_eq_some_iff.1 hu
  have hi0 : i = 0 := by simp only [List.length_cons, List.length_nil] at hl; omega
  subst hi0
  obtain rfl : Value.string x = u := by simpa using hp
  exact blk_cell h 0
def msG (M : List ByteArray) (nm : ByteArray) : List ByteArray := if M = [] then [nm] else M
/-- What region 3 of Grants holds in whatever order: the two boxes' cells; the rest aside. -/
def SG (w : World) (gr ga : Nat) (m u o : ByteArray) (mode : Int) (creds : Bool) (v5 : Value) (cls tmo grp sig : Int) (vm vh : Value) (age : Int) (w' : World) : Prop :=
  w'.cell? ⟨ga, 2, none⟩ = some (.int .u64 age) ∧ w'.cell? ⟨gr, 0, none⟩ = some (.string m) ∧ w'.cell? ⟨gr, 1, none⟩ = some (.string u) ∧ w'.cell? ⟨gr, 2, none⟩ = some (.string o) ∧ w'.cell? ⟨gr, 3, none⟩ = some (.int .i64 mode) ∧ w'.cell? ⟨gr, 4, none⟩ = some (.bool creds) ∧ w'.cell? ⟨gr, 5, none⟩ = some v5 ∧ w'.cell? ⟨gr, 6, none⟩ = some (.int .i64 cls) ∧ w'.cell? ⟨gr, 7, none⟩ = some (.int .u64 tmo) ∧ w'.cell? ⟨gr, 8, none⟩ = some (.int .i64 grp) ∧ w'.cell? ⟨gr, 9, none⟩ = some (.int .i64 sig) ∧
  Aside0 (w'.heap[gr]? = some (.cells #[.string m, .string u, .string o, .int .i64 mode, .bool creds, v5, .int .i64 cls, .int .u64 tmo, .int .i64 grp, .int .i64 sig] 26 (0, 0)) ∧ w'.heap[ga]? = some (.cells #[vm, vh, .int .u64 age] 51 (0, 0)) ∧ Below w.heap.size w w')
theorem sG {w w' : World} {gr ga : Nat} {m u o : ByteArray} {mode : Int} {creds : Bool} {v5 : Value} {cls tmo grp sig : Int} {vm vh : Value} {age : Int} (h1 : w'.heap[gr]? = some (.cells #[.string m, .string u, .string o, .int .i64 mode, .bool creds, v5, .int .i64 cls, .int .u64 tmo, .int .i64 grp, .int .i64 sig] 26 (0, 0))) (h2 : w'.heap[ga]? = some (.cells #[vm, vh, .int .u64 age] 51 (0, 0))) (h3 : Below w.heap.size w w') :
    SG w gr ga m u o mode creds v5 cls tmo grp sig vm vh age w' := ⟨blk_cell h2 2, blk_cell h1 0, blk_cell h1 1, blk_cell h1 2, blk_cell h1 3, blk_cell h1 4, blk_cell h1 5, blk_cell h1 6, blk_cell h1 7, blk_cell h1 8, blk_cell h1 9, ⟨h1, h2, h3⟩⟩
theorem SG.out {w w' : World} {gr ga : Nat} {m u o : ByteArray} {mode : Int} {creds : Bool} {v5 : Value} {cls tmo grp sig : Int} {vm vh : Value} {age : Int} (h : SG w gr ga m u o mode creds v5 cls tmo grp sig vm vh age w') : w'.heap[gr]? = some (.cells #[.string m, .string u, .string o, .int .i64 mode, .bool creds, v5, .int .i64 cls, .int .u64 tmo, .int .i64 grp, .int .i64 sig] 26 (0, 0)) ∧ w'.heap[ga]? = some (.cells #[vm, vh, .int .u64 age] 51 (0, 0)) ∧ Below w.heap.size w w' := h.2.2.2.2.2.2.2.2.2.2.2.out
theorem SG.step {w w' w2 : World} {gr ga : Nat} {m u o : ByteArray} {mode : Int} {creds : Bool} {v5 : Value} {cls tmo grp sig : Int} {vm vh : Value} {age : Int} (h : SG w gr ga m u o mode creds v5 cls tmo grp sig vm vh age w') (hb : Below w'.heap.size w' w2) : SG w gr ga m u o mode creds v5 cls tmo grp sig vm vh age w2 := by
  obtain ⟨h1, h2, h3⟩ := h.out
  exact sG (blk_below h1 hb) (blk_below h2 hb) (below_step h3 hb)
section
variable {P : Program} {ops : Array Oper} {o : Oper} {a : Act} {Q : Exit → Act → World → Prop} {Kc : Act → World → Prop}
theorem bxs8 {W : World} {N : Tmp} {cs : Array Value} {t : TypeId}
    (h : ∀ g, g = W.heap.size → ∀ w1, w1.heap[g]? = some (.cells cs t (0, 0)) → Below W.heap.size W w1 → Kc (a.put (some N) (.pointer (some ⟨g, 0, none⟩))) w1)
    (hw : Region.wanted o (yielded ops a.tmps) = true := by rfl) (hd : o.dst = some N := by rfl)
    (hrun : (execOp a.eval o).run P W = .ok (.value (.pointer (some ⟨W.heap.size, 0, none⟩))) (W.alloc (.cells cs t (0, 0))) := by first | (go_simp; done) | (go_simp; rfl)) :
    if Region.wanted o (yielded ops a.tmps) = true then Oper.wp P o a W Kc Q else Kc (a.put (some N) undef) W := value_ hw hd hrun (h _ rfl _ (blk_new W _) (below_alloc (Below.refl _ _) _))
end
section
variable (k : Nat) (m u o : ByteArray) (mode : Int) (creds : Bool) (A5 : Option Addr) (c5 : Nat) (l : List S28) (cls tmo grp sig : Int) (Am Ah : Option Addr) (cm ch : Nat) (M H : List ByteArray) (age now un : Int) (c1 c2 : ByteArray) (c3 : Bool)
theorem grants_calls (n1 n2 n3 : ByteArray) (n4 : Int) (n5 : Bool) (n6 : List S28) (n7 n8 n9 n10 : Int) (w : World) (hr5 : Kd.C k28 w A5 l.length l) (hc5 : l.length ≤ c5) (hm : Kd.C Kd.string w Am M.length M) (hh : Kd.C Kd.string w Ah H.length H) (hM_ : Aside0 (LaidW w))
    (hl : M.length ≤ 400000 ∧ H.length ≤ 400000) (hN : ask_Needs.f k m u o mode creds l cls tmo grp sig = some true) (hage : (age == 0) = false) (hT : tick_Add.f now age = some un) (hC : ask_Cell.f k m u o mode creds l cls tmo grp sig = some (c1, c2, c3))
    (hO : ask_Norm.f k m u o mode creds l cls tmo grp sig = some (n1, n2, n3, n4, n5, n6, n7, n8, n9, n10)) :
    Calls Tryz.prog 41 #[.agg #[.string m, .string u, .string o, .int .i64 mode, .bool creds, .slice A5 l.length c5, .int .i64 cls, .int .u64 tmo, .int .i64 grp, .int .i64 sig], .agg #[.slice Am M.length cm, .slice Ah H.length ch, .int .u64 age], .int .u64 now] w fun e w' => ∃ v, e = .returned v ∧ Kd.R k64 64 w' w.heap.size (fun _ => True) v (rowH c1 c2 c3 un H (rowM c1 c2 c3 un (msG M n1) [])) ∧ Below w.heap.size w w' := by
  have hu26 := Tryz.underlying26
  have hu43 := Tryz.underlying43
  have hu51 := Tryz.underlying51
  have hu64 := Tryz.underlying64
  have HB := Aside0.mk (Below.refl w.heap.size w)
  have HR5 := Aside0.mk hr5
  have HC5 := Aside0.mk hc5
  have HRm := Aside0.mk hm
  have HRh := Aside0.mk hh
  have HL := Aside0.mk hl
  have hl1 := hl.1
  have hl2 := hl.2
  have FN := Aside0.mk hN
  have FT := Aside0.mk hT
  have FC := Aside0.mk hC
  have FO := Aside0.mk hO
  clear hr5 hc5 hm hh hl hN hT hC hO
  obtain ⟨ms, hms⟩ : ∃ ms, ms = msG M n1 := ⟨_, rfl⟩
  rw [← hms]
  have HMS := Aside0.mk hms
  clear hms
  go_enter Tryz.func41, Tryz.ntmps41
  go_wp2_with (first | ((with_reducible refine gate_dst (N := 3) rfl ?_); refine bxE (N := 3) (cs := #[.string m, .string u, .string o, .int .i64 mode, .bool creds, .slice A5 l.length c5, .int .i64 cls, .int .u64 tmo, .int .i64 grp, .int .i64 sig]) (t := 26) fun gr hg w1 hbox hb => ?_; obtain ⟨HB', BR, GR⟩ := bx_ bE hg hbox hb; clear HB hb hbox hg; have HB := HB'; clear HB') | ((with_reducible refine gate_dst (N := 4) rfl ?_); refine bxE (N := 4) (cs := #[.slice Am M.length cm, .slice Ah H.length ch, .int .u64 age]) (t := 51) fun ga hg w2 hbox hb => ?_; obtain ⟨HB', BA, GA⟩ := bx_ bE hg hbox hb; replace BR := kM BR hb; clear HB hb hbox hg; have HB := HB'; clear HB'; obtain ⟨za, zb, zc, zd, ze, zf, zg, zh, zi, zj, zk⟩ := bk10_ BR; obtain ⟨ya, yb, yc, yd, ye, yf⟩ := bk3_ BA) | (go_at_call 14; (with_reducible refine (ask_Needs.calls _ _ _ _ _ _ _ _ _ _ _ _ _ _ _ (Kd.C_below HR5.out HB.out) HC5.out ⟨hM_.out.below HB.out⟩ FN.out).mono ?_); rintro e' w3 ⟨rfl, hb⟩; replace BR := kM BR hb; replace BA := kM BA hb; replace HB := bS bE hb; clear hb; clear za zb zc zd ze zf zg zh zi zj zk ya yb yc yd ye yf; obtain ⟨za, zb, zc, zd, ze, zf, zg, zh, zi, zj, zk⟩ := bk10_ BR; obtain ⟨ya, yb, yc, yd, ye, yf⟩ := bk3_ BA))
  have PT := Aside0.mk fun (W : World) => (tick_Add.calls _ _ _ W FT.out).mono (R' := fun e w' => e = .returned (.int .u64 un) ∧ Below W.heap.size W w') fun _ _ h => ⟨h.1, h.2.below⟩
  have PC := Aside0.mk fun (W : World) (hb : Below w.heap.size w W) => ask_Cell.calls k m u o mode creds A5 c5 l cls tmo grp sig c1 c2 c3 W (Kd.C_below HR5.out hb) HC5.out ⟨hM_.out.below hb⟩ FC.out
  have D1 := blk_drew BR.out
  have D2 := blk_drew BA.out
  have D3 := below_drew1 HB.out
  clear za zb zc zd ze zf zg zh zi zj zk ya yb yc yd ye yf BR BA HB
  refine start_ (n := 9) (S := SG w gr ga m u o mode creds (.slice A5 l.length c5) cls tmo grp sig (.slice Am M.length cm) (.slice Ah H.length ch) age) (ds := [8]) (bz 9 0) (by kernel_rfl) rfl rfl (sG D1 D2 D3) (fun hHeld => ?_)
  clear D1 D2 D3
  generalize w3.drew = w4 at hHeld ⊢
  refine qA 0 24 9 1 ?_
  refine qA 1 25 9 3 ?_
  refine tA12 2 26 9 7 ?_
  refine tA12 4 28 9 23 ?_
  refine join_ (σ := Nat) 2 (bz 9 127) (fun s => [(27, .int .u64 un), (29, .agg #[.string c1, .string c2, .bool c3]), (8, .pointer (some ⟨s, 0, none⟩))]) (fun s w' => SG w gr ga m u o mode creds (.slice A5 l.length c5) cls tmo grp sig (.slice Am M.length cm) (.slice Ah H.length ch) age w' ∧ w'.heap[s]? = some (.cells #[.string ⟨#[]⟩, .string ⟨#[]⟩, .bool false] 43 (0, 0)) ∧ w.heap.size ≤ s) ?_ (fun hCont => ?_)
  rotate_left
  · refine two_ (i := 3) (j := 6) (Ni := some 27) (Nj := some 8) (bz 9 31) (bz 9 87) rfl rfl rfl rfl (by kernel_rfl) (by decide) (by decide) (fun K hK => ?_) (fun K hK => ?_)
    · refine goes_ Tryz.func79 (by kernel_rfl) rfl #[.int .u64 now, .int .u64 age] (by rfl) rfl rfl (by (try simp only [List.map_toArray, List.map_cons, List.map_nil]); first | done | rfl) ?_
      (with_reducible refine (PT.out _).mono ?_)
      rintro e' wa ⟨rfl, hb⟩
      refine ⟨_, rfl, ?_⟩
      refine hK.out _ _ (hHeld.step hb) (fun hHeld' => ?_)
      clear hK K hHeld
      have hHeld := hHeld'
      clear hHeld' hb
      refine nA 27 ?_
      refine two_ (i := 5) (j := 6) (Ni := some 29) (Nj := some 8) (bz 9 63) (bz 9 95) rfl rfl rfl rfl (by kernel_rfl) (by decide) (by decide) (fun K hK => ?_) (fun K hK => ?_)
      · refine goes_ Tryz.func29 (by kernel_rfl) rfl #[.agg #[.string m, .string u, .string o, .int .i64 mode, .bool creds, .slice A5 l.length c5, .int .i64 cls, .int .u64 tmo, .int .i64 grp, .int .i64 sig]] (by rfl) rfl rfl (by (try simp only [List.map_toArray, List.map_cons, List.map_nil]); first | done | rfl) ?_
        (with_reducible refine (PC.out _ hHeld.out.2.2).mono ?_)
        rintro e' wb ⟨rfl, hb⟩
        refine ⟨_, rfl, ?_⟩
        refine hK.out _ _ (hHeld.step hb) (fun hHeld' => ?_)
        clear hK K hHeld
        have hHeld := hHeld'
        clear hHeld' hb
        refine nA 29 ?_
        refine oB 6 8 9 127 fun K hK => ?_
        refine bxs8 (fun gs hg wc hbox hb => ?_)
        have hgs := Nat.le_trans hHeld.out.2.2.size (Nat.le_of_eq hg.symm)
        have hS := hHeld.step hb
        clear hg hb
        refine hK.out _ _ hS (fun hHeld' => ?_)
        clear hK K hHeld hS
        have hHeld := hHeld'
        clear hHeld'
        refine nA 8 ?_
        exact norm_ (by simp only [putAll, Act.put, List.setIfInBounds_toArray, List.set_cons_zero, List.set_cons_succ]) (hCont gs _ ⟨hHeld, hbox, hgs⟩)
      · refine bxs8 (fun gs hg wc hbox hb => ?_)
        have hgs := Nat.le_trans hHeld.out.2.2.size (Nat.le_of_eq hg.symm)
        have hS := hHeld.step hb
        clear hg hb
        refine hK.out _ _ hS (fun hHeld' => ?_)
        clear hK K hHeld hS
        have hHeld := hHeld'
        clear hHeld'
        refine nA 8 ?_
        refine oB 5 29 9 127 fun K hK => ?_
        refine goes_ Tryz.func29 (by kernel_rfl) rfl #[.agg #[.string m, .string u, .string o, .int .i64 mode, .bool creds, .slice A5 l.length c5, .int .i64 cls, .int .u64 tmo, .int .i64 grp, .int .i64 sig]] (by rfl) rfl rfl (by (try simp only [List.map_toArray, List.map_cons, List.map_nil]); first | done | rfl) ?_
        (with_reducible refine (PC.out _ hHeld.out.2.2).mono ?_)
        rintro e' wb ⟨rfl, hb⟩
        refine ⟨_, rfl, ?_⟩
        replace hbox := blk_below hbox hb
        refine hK.out _ _ (hHeld.step hb) (fun hHeld' => ?_)
        clear hK K hHeld
        have hHeld := hHeld'
        clear hHeld' hb
        refine nA 29 ?_
        exact norm_ (by simp only [putAll, Act.put, List.setIfInBounds_toArray, List.set_cons_zero, List.set_cons_succ]) (hCont gs _ ⟨hHeld, hbox, hgs⟩)
    · refine bxs8 (fun gs hg wc hbox hb => ?_)
      have hgs := Nat.le_trans hHeld.out.2.2.size (Nat.le_of_eq hg.symm)
      have hS := hHeld.step hb
      clear hg hb
      refine hK.out _ _ hS (fun hHeld' => ?_)
      clear hK K hHeld hS
      have hHeld := hHeld'
      clear hHeld'
      refine nA 8 ?_
      refine oB 3 27 9 95 fun K hK => ?_
      refine goes_ Tryz.func79 (by kernel_rfl) rfl #[.int .u64 now, .int .u64 age] (by rfl) rfl rfl (by (try simp only [List.map_toArray, List.map_cons, List.map_nil]); first | done | rfl) ?_
      (with_reducible refine (PT.out _).mono ?_)
      rintro e' wa ⟨rfl, hb⟩
      refine ⟨_, rfl, ?_⟩
      replace hbox := blk_below hbox hb
      refine hK.out _ _ (hHeld.step hb) (fun hHeld' => ?_)
      clear hK K hHeld
      have hHeld := hHeld'
      clear hHeld' hb
      refine nA 27 ?_
      refine oB 5 29 9 127 fun K hK => ?_
      refine goes_ Tryz.func29 (by kernel_rfl) rfl #[.agg #[.string m, .string u, .string o, .int .i64 mode, .bool creds, .slice A5 l.length c5, .int .i64 cls, .int .u64 tmo, .int .i64 grp, .int .i64 sig]] (by rfl) rfl rfl (by (try simp only [List.map_toArray, List.map_cons, List.map_nil]); first | done | rfl) ?_
      (with_reducible refine (PC.out _ hHeld.out.2.2).mono ?_)
      rintro e' wb ⟨rfl, hb⟩
      refine ⟨_, rfl, ?_⟩
      replace hbox := blk_below hbox hb
      refine hK.out _ _ (hHeld.step hb) (fun hHeld' => ?_)
      clear hK K hHeld
      have hHeld := hHeld'
      clear hHeld' hb
      refine nA 29 ?_
      exact norm_ (by simp only [putAll, Act.put, List.setIfInBounds_toArray, List.set_cons_zero, List.set_cons_succ]) (hCont gs _ ⟨hHeld, hbox, hgs⟩)
  intro gs w5 hF
  obtain ⟨hHeld, hbox, hgs⟩ := hF
  refine norm_ (by simp only [putAll, Act.put, List.setIfInBounds_toArray, List.set_cons_zero, List.set_cons_succ]; rfl) ?_
  refine qA 7 7 9 255 ?_
  obtain ⟨hR, hA, hB⟩ := hHeld.out
  have p0 := blk_cell hbox 0
  have p1 := blk_frozen hbox 0
  have p2 := blk_cell hbox 1
  have p3 := blk_frozen hbox 1
  have p4 := blk_cell hbox 2
  have p5 := blk_frozen hbox 2
  have HX := Aside0.mk hbox
  have BR := Aside0.mk hR
  have BA := Aside0.mk hA
  have HB := Aside0.mk hB
  have GS := Aside0.mk hgs
  clear hbox hR hA hB hgs hHeld
  refine last_ (i := 8) (N := none) (bz 9 511) rfl rfl (by kernel_rfl) (by decide) (fun K hK => ?_)
  refine skip_ (w1 := ?_) (by rfl) rfl ?_ ?_
  rotate_left
  · go_simp
    rfl
  refine hK.out _ _ ?_
  clear hK K
  refine done_ (by kernel_rfl) ?_
  clear p0 p1 p2 p3 p4 p5
  have hr : gr ≠ gs := blk_ne BR.out HX.out (by decide)
  have ha : ga ≠ gs := blk_ne BA.out HX.out (by decide)
  have HX' := Aside0.mk (blk_put (blk_put (blk_put HX.out 0 (.string c1) rfl) 1 (.string c2) rfl) 2 (.bool c3) rfl)
  have BR' := Aside0.mk (blk_far (p := ⟨gs, 2, none⟩) (blk_far (p := ⟨gs, 1, none⟩) (blk_far (p := ⟨gs, 0, none⟩) BR.out hr (.string c1)) hr (.string c2)) hr (.bool c3))
  have BA' := Aside0.mk (blk_far (p := ⟨gs, 2, none⟩) (blk_far (p := ⟨gs, 1, none⟩) (blk_far (p := ⟨gs, 0, none⟩) BA.out ha (.string c1)) ha (.string c2)) ha (.bool c3))
  have HB' := Aside0.mk (below_set (j := 2) (v := .bool c3) (below_set (j := 1) (v := .string c2) (below_set (j := 0) (v := .string c1) HB.out GS.out) GS.out) GS.out)
  clear hr ha HX BR BA HB
  generalize ((w5.setCell ⟨gs, 0, none⟩ (.string c1)).setCell ⟨gs, 1, none⟩ (.string c2)).setCell ⟨gs, 2, none⟩ (.bool c3) = w6 at HX' BR' BA' HB' ⊢
  have HX := HX'
  have BR := BR'
  have BA := BA'
  have HB := HB'
  clear HX' BR' BA' HB'
  obtain ⟨za, zb, zc, zd, ze, zf, zg, zh, zi, zj, zk⟩ := bk10_ BR
  obtain ⟨ya, yb, yc, yd, ye, yf⟩ := bk3_ BA
  by_cases hM : M = []
  · have c0 : ((M.length : Int) == 0) = true := by rw [hM]; rfl
    obtain rfl : ms = [n1] := HMS.out.trans (if_pos hM)
    clear hM HMS
    have PO := Aside0.mk fun (W : World) (hb : Below w.heap.size w W) => ask_Norm.calls k m u o mode creds A5 c5 l cls tmo grp sig n1 n2 n3 n4 n5 n6 n7 n8 n9 n10 W (Kd.C_below HR5.out hb) HC5.out ⟨hM_.out.below hb⟩ FO.out
    go_wp2_with (first | (go_at_call 20; (with_reducible refine (PO.out _ HB.out).mono ?_); rintro e' w7 ⟨v5, rfl, hv5, hb⟩; replace BR := kM BR hb; replace BA := kM BA hb; replace HX := kM HX hb; replace HB := bS bE hb; clear hb hv5; obtain ⟨xa, xb, xc, xd, xe, xf⟩ := bk3_ BA; have fld := fun (w : World) => fld26_0 (.string n1) (.string n2) (.string n3) (.int .i64 n4) (.bool n5) v5 (.int .i64 n7) (.int .u64 n8) (.int .i64 n9) (.int .i64 n10) w) | ((with_reducible refine gate_dst (N := 10) rfl ?_); refine bxE (N := 10) (cs := #[.slice none 0 0]) (t := 59) fun go hg w8 hbox hb => ?_; obtain ⟨HB', BO, GO⟩ := bx_ bE hg hbox hb; replace BR := kM BR hb; replace BA := kM BA hb; replace HX := kM HX hb; have BN := Aside0.mk (blk_below (blk_new w7 (.cells #[.string n1] 9)) hb); clear HB hb hbox hg; have HB := HB'; clear HB'; obtain ⟨ra, rb, rc, rd, re, rf⟩ := bk3_ BA))
    clear za zb zc zd ze zf zg zh zi zj zk ya yb yc yd ye yf xa xb xc xd xe xf ra rb rc rd re rf fld c0 BR
    generalize w7.heap.size = gn at BN ⊢
    go_loopg [13, 42] 1 (fun gg _ s42 wr => ∃ i : Nat, i ≤ 1 ∧ 1 - i ≤ gg ∧ s42 = .int .i64 i ∧ Aside0 (IsO wr w.heap.size go (rowM c1 c2 c3 un ([n1].take i) [])) ∧ Aside0 (wr.heap[ga]? = some (.cells #[.slice Am M.length cm, .slice Ah H.length ch, .int .u64 age] 51 (0, 0))) ∧ Aside0 (wr.heap[gs]? = some (.cells #[.string c1, .string c2, .bool c3] 43 (0, 0))) ∧ Aside0 (wr.heap[gn]? = some (.cells #[.string n1] 9 (0, 0))) ∧ Aside0 (Below w.heap.size w wr))
    case atStart => exact ⟨0, Nat.zero_le _, by omega, rfl, ⟨⟨_, BO.out, GO.out, Kd.R_nil _ _ _ _ _⟩⟩, ⟨kC BA⟩, ⟨kC HX⟩, ⟨kC BN⟩, ⟨bE⟩⟩
    case round =>
      clear HB BA HX BO BN
      obtain ⟨i, hi, hg, rfl, HO, BA, HX, BN, HB⟩ := hrel
      obtain ⟨xa, xb, xc, xd, xe, xf⟩ := bk3_ BA
      obtain ⟨va, vb, vc, vd, ve, vf⟩ := bk3_ HX
      by_cases hlt : i < 1
      · have hli : i < [n1].length := by simpa using hlt
        obtain rfl : i = 0 := by omega
        have q0 := blk_cell BN.out 0
        have hlen : (rowM c1 c2 c3 un ([n1].take 0) []).length ≤ 1000000 := by
          have h1 := rowM_len c1 c2 c3 un ([n1].take 0) []
          have h2 := HL.out.1
          rw [List.length_take, List.length_nil] at h1
          omega
        have hcall := grants1_calls go _ ⟨⟨c1, c2, c3⟩, [n1][0], ⟨#[]⟩, un⟩ w wr HB.out HO.out hlen
        rw [← rowM_snoc c1 c2 c3 un [n1] 0 hli []] at hcall
        replace hcall : Calls Tryz.prog 80 #[.agg (celE ⟨⟨c1, c2, c3⟩, n1, ⟨#[]⟩, un⟩), .pointer (some ⟨go, 0, none⟩)] wr _ := hcall
        unfold celE at hcall
        dsimp only at hcall
        have HQ := Aside0.mk hcall
        clear hcall hlen
        go_wp2_with (go_at_call 80; (with_reducible refine HQ.out.mono ?_); rintro e' w9 ⟨rfl, ho9, hb9, htf⟩; replace BA := Aside0.mk (htf _ _ _ (by decide) (by decide) BA.out); replace HX := Aside0.mk (htf _ _ _ (by decide) (by decide) HX.out); replace BN := Aside0.mk (htf _ _ _ (by decide) (by decide) BN.out); replace HO := Aside0.mk ho9; replace HB := Aside0.mk hb9; clear ho9 hb9 htf)
        go_roundg (1 - (0 + 1))
        case measure => omega
        case rel => exact ⟨0 + 1, by omega, by omega, by go_num, ⟨HO.out⟩, ⟨BA.out⟩, ⟨HX.out⟩, ⟨BN.out⟩, ⟨HB.out⟩⟩
      · have c5 : decide ((i : Int) < (1 : Int)) = false := decide_eq_false (by omega)
        have ho := HO.out
        rw [List.take_of_length_le (by have := HL.out.1; (try simp only [List.length_cons, List.length_nil]); omega)] at ho
        replace HO := Aside0.mk ho
        clear ho
        go_wp2
        go_loopg [15, 56] H.length (fun gg _ s56 wr => ∃ i : Nat, i ≤ H.length ∧ H.length - i ≤ gg ∧ s56 = .int .i64 i ∧ Aside0 (IsO wr w.heap.size go (rowH c1 c2 c3 un (H.take i) (rowM c1 c2 c3 un [n1] []))) ∧ Aside0 (wr.heap[ga]? = some (.cells #[.slice Am M.length cm, .slice Ah H.length ch, .int .u64 age] 51 (0, 0))) ∧ Aside0 (wr.heap[gs]? = some (.cells #[.string c1, .string c2, .bool c3] 43 (0, 0))) ∧ Aside0 (Below w.heap.size w wr))
        case atStart => exact ⟨0, Nat.zero_le _, by omega, rfl, ⟨HO.out⟩, ⟨BA.out⟩, ⟨HX.out⟩, ⟨HB.out⟩⟩
        case round =>
          clear HB BA HX HO BN xa xb xc xd xe xf va vb vc vd ve vf c5 hlt hg
          obtain ⟨j, hj, hg, rfl, HO, BA, HX, HB⟩ := hrel
          obtain ⟨xa, xb, xc, xd, xe, xf⟩ := bk3_ BA
          obtain ⟨va, vb, vc, vd, ve, vf⟩ := bk3_ HX
          by_cases hlt : j < H.length
          · obtain ⟨ad, e0, q0⟩ := Kd.at_string (Kd.C_below HRh.out HB.out) (j : Int) (by omega) (by omega)
            have hy : rdOf ByteArray.empty H (j : Int) = H[j] := by simp [rdOf, List.getD_eq_getElem?_getD, List.getElem?_eq_getElem hlt]
            rw [hy] at q0
            have hlen : (rowH c1 c2 c3 un (H.take j) (rowM c1 c2 c3 un [n1] [])).length ≤ 1000000 := by
              have h1 := rowM_len c1 c2 c3 un [n1] []
              have h2 := HL.out
              have h3 := rowH_len c1 c2 c3 un (H.take j) (rowM c1 c2 c3 un [n1] [])
              rw [List.length_nil] at h1
              rw [List.length_take] at h3
              (try simp only [List.length_cons, List.length_nil] at h1)
              omega
            have hcall := grants1_calls go _ ⟨⟨c1, c2, c3⟩, ⟨#[]⟩, H[j], un⟩ w _ HB.out HO.out hlen
            rw [← rowH_snoc c1 c2 c3 un H j hlt] at hcall
            generalize H[j] = y at q0 hcall
            clear hy
            unfold celE at hcall
            dsimp only at hcall
            have HQ := Aside0.mk hcall
            clear hcall hlen
            cases e0
            rw [Int.toNat_natCast] at q0
            have c5 : decide ((j : Int) < (H.length : Int)) = true := decide_eq_true (by omega)
            have c6 : (0 : Int) ≤ (j : Int) := by omega
            have c7 : (j : Int) < (H.length : Int) := by omega
            go_wp2_with (go_at_call 80; (with_reducible refine HQ.out.mono ?_); rintro e' w9 ⟨rfl, ho9, hb9, htf⟩; replace BA := Aside0.mk (htf _ _ _ (by decide) (by decide) BA.out); replace HX := Aside0.mk (htf _ _ _ (by decide) (by decide) HX.out); replace HO := Aside0.mk ho9; replace HB := Aside0.mk hb9; clear ho9 hb9 htf)
            go_roundg (H.length - (j + 1))
            case measure => omega
            case rel => exact ⟨j + 1, by omega, by omega, by go_num, ⟨HO.out⟩, ⟨BA.out⟩, ⟨HX.out⟩, ⟨HB.out⟩⟩
          · have c5 : decide ((j : Int) < (H.length : Int)) = false := decide_eq_false (by omega)
            have ho := HO.out
            rw [List.take_of_length_le (by omega)] at ho
            obtain ⟨v, hk, hgo, hrow⟩ := ho
            obtain ⟨Av, cv, rfl⟩ := Kd.R_slice hrow
            have u0 := blk_cell hk 0
            have u1 := blk_frozen hk 0
            have HK := Aside0.mk hrow
            clear hk hrow HO
            go_wp2
            go_ret
            exact ⟨_, rfl, Kd.R_mono HK.out (fun _ _ => trivial), HB.out⟩
  · have c0 : ((M.length : Int) == 0) = false := by
      have : 0 < M.length := List.length_pos_iff.2 hM
      simp only [beq_eq_false_iff_ne, ne_eq]
      omega
    obtain rfl : ms = M := HMS.out.trans (if_neg hM)
    clear hM HMS
    go_wp2_with ((with_reducible refine gate_dst (N := 10) rfl ?_); refine bxE (N := 10) (cs := #[.slice none 0 0]) (t := 59) fun go hg w8 hbox hb => ?_; obtain ⟨HB', BO, GO⟩ := bx_ bE hg hbox hb; replace BR := kM BR hb; replace BA := kM BA hb; replace HX := kM HX hb; clear HB hb hbox hg; have HB := HB'; clear HB'; obtain ⟨ra, rb, rc, rd, re, rf⟩ := bk3_ BA)
    clear za zb zc zd ze zf zg zh zi zj zk ya yb yc yd ye yf ra rb rc rd re rf c0 BR
    go_loopg [13, 42] ms.length (fun gg _ s42 wr => ∃ i : Nat, i ≤ ms.length ∧ ms.length - i ≤ gg ∧ s42 = .int .i64 i ∧ Aside0 (IsO wr w.heap.size go (rowM c1 c2 c3 un (ms.take i) [])) ∧ Aside0 (wr.heap[ga]? = some (.cells #[.slice Am ms.length cm, .slice Ah H.length ch, .int .u64 age] 51 (0, 0))) ∧ Aside0 (wr.heap[gs]? = some (.cells #[.string c1, .string c2, .bool c3] 43 (0, 0))) ∧ Aside0 (Below w.heap.size w wr))
    case atStart => exact ⟨0, Nat.zero_le _, by omega, rfl, ⟨⟨_, BO.out, GO.out, Kd.R_nil _ _ _ _ _⟩⟩, ⟨kC BA⟩, ⟨kC HX⟩, ⟨bE⟩⟩
    case round =>
      clear HB BA HX BO
      obtain ⟨i, hi, hg, rfl, HO, BA, HX, HB⟩ := hrel
      obtain ⟨xa, xb, xc, xd, xe, xf⟩ := bk3_ BA
      obtain ⟨va, vb, vc, vd, ve, vf⟩ := bk3_ HX
      by_cases hlt : i < ms.length
      · have hli : i < ms.length := hlt
        obtain ⟨ad, e0, q0⟩ := Kd.at_string (Kd.C_below HRm.out HB.out) (i : Int) (by omega) (by omega)
        have hy : rdOf ByteArray.empty ms (i : Int) = ms[i] := by simp [rdOf, List.getD_eq_getElem?_getD, List.getElem?_eq_getElem hli]
        rw [hy] at q0
        have hlen : (rowM c1 c2 c3 un (ms.take i) []).length ≤ 1000000 := by
          have h1 := rowM_len c1 c2 c3 un (ms.take i) []
          have h2 := HL.out.1
          rw [List.length_take, List.length_nil] at h1
          omega
        have hcall := grants1_calls go _ ⟨⟨c1, c2, c3⟩, ms[i], ⟨#[]⟩, un⟩ w wr HB.out HO.out hlen
        rw [← rowM_snoc c1 c2 c3 un ms i hli []] at hcall
        generalize ms[i] = y at q0 hcall
        clear hy
        unfold celE at hcall
        dsimp only at hcall
        have HQ := Aside0.mk hcall
        clear hcall hlen
        cases e0
        rw [Int.toNat_natCast] at q0
        have c5 : decide ((i : Int) < (ms.length : Int)) = true := decide_eq_true (by omega)
        have c6 : (0 : Int) ≤ (i : Int) := by omega
        have c7 : (i : Int) < (ms.length : Int) := by omega
        go_wp2_with (go_at_call 80; (with_reducible refine HQ.out.mono ?_); rintro e' w9 ⟨rfl, ho9, hb9, htf⟩; replace BA := Aside0.mk (htf _ _ _ (by decide) (by decide) BA.out); replace HX := Aside0.mk (htf _ _ _ (by decide) (by decide) HX.out); replace HO := Aside0.mk ho9; replace HB := Aside0.mk hb9; clear ho9 hb9 htf)
        go_roundg (ms.length - (i + 1))
        case measure => omega
        case rel => exact ⟨i + 1, by omega, by omega, by go_num, ⟨HO.out⟩, ⟨BA.out⟩, ⟨HX.out⟩, ⟨HB.out⟩⟩
      · have c5 : decide ((i : Int) < (ms.length : Int)) = false := decide_eq_false (by omega)
        have ho := HO.out
        rw [List.take_of_length_le (by have := HL.out.1; (try simp only [List.length_cons, List.length_nil]); omega)] at ho
        replace HO := Aside0.mk ho
        clear ho
        go_wp2
        go_loopg [15, 56] H.length (fun gg _ s56 wr => ∃ i : Nat, i ≤ H.length ∧ H.length - i ≤ gg ∧ s56 = .int .i64 i ∧ Aside0 (IsO wr w.heap.size go (rowH c1 c2 c3 un (H.take i) (rowM c1 c2 c3 un ms []))) ∧ Aside0 (wr.heap[ga]? = some (.cells #[.slice Am ms.length cm, .slice Ah H.length ch, .int .u64 age] 51 (0, 0))) ∧ Aside0 (wr.heap[gs]? = some (.cells #[.string c1, .string c2, .bool c3] 43 (0, 0))) ∧ Aside0 (Below w.heap.size w wr))
        case atStart => exact ⟨0, Nat.zero_le _, by omega, rfl, ⟨HO.out⟩, ⟨BA.out⟩, ⟨HX.out⟩, ⟨HB.out⟩⟩
        case round =>
          clear HB BA HX HO xa xb xc xd xe xf va vb vc vd ve vf c5 hlt hg
          obtain ⟨j, hj, hg, rfl, HO, BA, HX, HB⟩ := hrel
          obtain ⟨xa, xb, xc, xd, xe, xf⟩ := bk3_ BA
          obtain ⟨va, vb, vc, vd, ve, vf⟩ := bk3_ HX
          by_cases hlt : j < H.length
          · obtain ⟨ad, e0, q0⟩ := Kd.at_string (Kd.C_below HRh.out HB.out) (j : Int) (by omega) (by omega)
            have hy : rdOf ByteArray.empty H (j : Int) = H[j] := by simp [rdOf, List.getD_eq_getElem?_getD, List.getElem?_eq_getElem hlt]
            rw [hy] at q0
            have hlen : (rowH c1 c2 c3 un (H.take j) (rowM c1 c2 c3 un ms [])).length ≤ 1000000 := by
              have h1 := rowM_len c1 c2 c3 un ms []
              have h2 := HL.out
              have h3 := rowH_len c1 c2 c3 un (H.take j) (rowM c1 c2 c3 un ms [])
              rw [List.length_nil] at h1
              rw [List.length_take] at h3
              (try simp only [List.length_cons, List.length_nil] at h1)
              omega
            have hcall := grants1_calls go _ ⟨⟨c1, c2, c3⟩, ⟨#[]⟩, H[j], un⟩ w _ HB.out HO.out hlen
            rw [← rowH_snoc c1 c2 c3 un H j hlt] at hcall
            generalize H[j] = y at q0 hcall
            clear hy
            unfold celE at hcall
            dsimp only at hcall
            have HQ := Aside0.mk hcall
            clear hcall hlen
            cases e0
            rw [Int.toNat_natCast] at q0
            have c5 : decide ((j : Int) < (H.length : Int)) = true := decide_eq_true (by omega)
            have c6 : (0 : Int) ≤ (j : Int) := by omega
            have c7 : (j : Int) < (H.length : Int) := by omega
            go_wp2_with (go_at_call 80; (with_reducible refine HQ.out.mono ?_); rintro e' w9 ⟨rfl, ho9, hb9, htf⟩; replace BA := Aside0.mk (htf _ _ _ (by decide) (by decide) BA.out); replace HX := Aside0.mk (htf _ _ _ (by decide) (by decide) HX.out); replace HO := Aside0.mk ho9; replace HB := Aside0.mk hb9; clear ho9 hb9 htf)
            go_roundg (H.length - (j + 1))
            case measure => omega
            case rel => exact ⟨j + 1, by omega, by omega, by go_num, ⟨HO.out⟩, ⟨BA.out⟩, ⟨HX.out⟩, ⟨HB.out⟩⟩
          · have c5 : decide ((j : Int) < (H.length : Int)) = false := decide_eq_false (by omega)
            have ho := HO.out
            rw [List.take_of_length_le (by omega)] at ho
            obtain ⟨v, hk, hgo, hrow⟩ := ho
            obtain ⟨Av, cv, rfl⟩ := Kd.R_slice hrow
            have u0 := blk_cell hk 0
            have u1 := blk_frozen hk 0
            have HK := Aside0.mk hrow
            clear hk hrow HO
            go_wp2
            go_ret
            exact ⟨_, rfl, Kd.R_mono HK.out (fun _ _ => trivial), HB.out⟩
end
end Go.Proofs.YtfmajangcbgooaaGreatDoor.Pr
