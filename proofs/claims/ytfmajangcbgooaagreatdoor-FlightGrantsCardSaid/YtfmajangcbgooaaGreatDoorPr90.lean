
/- The law FlightGrants: walked by hand. -/
import Derived.Test.YtfmajangcbgooaaGreatDoorG18
import Derived.Test.YtfmajangcbgooaaGreatDoorG16
import Derived.Test.YtfmajangcbgooaaGreatDoorPr4
import Derived.Test.YtfmajangcbgooaaGreatDoorPr18
import Derived.Test.YtfmajangcbgooaaGreatDoorPr17
import Derived.Test.YtfmajangcbgooaaGreatDoorPr15
import Derived.Test.YtfmajangcbgooaaGreatDoorPr13
import Derived.Test.YtfmajangcbgooaaGreatDoorPr1
namespace Go.Proofs.YtfmajangcbgooaaGreatDoor.Pr
open Go.RowKit Go.Proofs.YtfmajangcbgooaaGreatDoorW.PrintWords Go.Proofs.YtfmajangcbgooaaGreatDoorW.PrintLast Go.Proofs.YtfmajangcbgooaaGreatDoorW.PrintMore
set_option linter.unusedVariables false
set_option linter.unusedSimpArgs false
set_option maxHeartbeats 64000000
set_option maxRecDepth 100000
section
variable {P : Program} {ops : Array Oper} {rest : List Oper} {o : Oper} {a : Act} {Q : Exit → Act → World → Prop}
theorem stE {W W1 : World} (hrun : (execOp a.eval o).run P W = .ok .skip W1) (h : ∀ X, X = W1 → wpList P ops Q rest a X) (hgd : o.guard = none := by rfl) (hN : o.dst = none := by rfl) : wpList P ops Q (o :: rest) a W := by
  refine wpList_plain hgd fun K hK => ?_
  unfold Oper.wp
  rw [hrun]
  show K (a.put o.dst undef) W1
  rw [hN]
  exact hK _ _ (h W1 rfl)
end
theorem grants0_calls (k : Nat) (m u o : ByteArray) (mode : Int) (creds : Bool) (A5 : Option Addr) (c5 : Nat) (l : List S28) (cls tmo grp sig : Int) (Am Ah : Option Addr) (nm nh cm ch : Nat) (now : Int) (w : World) (hr5 : Kd.C k28 w A5 l.length l) (hc5 : l.length ≤ c5) (hM_ : Aside0 (LaidW w))
    (hN : ask_Needs.f k m u o mode creds l cls tmo grp sig = some true) :
    Calls Tryz.prog 41 #[.agg #[.string m, .string u, .string o, .int .i64 mode, .bool creds, .slice A5 l.length c5, .int .i64 cls, .int .u64 tmo, .int .i64 grp, .int .i64 sig], .agg #[.slice Am nm cm, .slice Ah nh ch, .int .u64 0], .int .u64 now] w fun e w' => e = .returned (.slice none 0 0) ∧ Below w.heap.size w w' := by
  have hu26 := Tryz.underlying26
  have hu51 := Tryz.underlying51
  have HB := Aside0.mk (Below.refl w.heap.size w)
  have HR5 := Aside0.mk hr5
  have HC5 := Aside0.mk hc5
  have FN := Aside0.mk hN
  clear hr5 hc5 hN
  go_enter Tryz.func41, Tryz.ntmps41
  go_wp2_with (first | ((with_reducible refine gate_dst (N := 3) rfl ?_); refine bxE (N := 3) (cs := #[.string m, .string u, .string o, .int .i64 mode, .bool creds, .slice A5 l.length c5, .int .i64 cls, .int .u64 tmo, .int .i64 grp, .int .i64 sig]) (t := 26) fun gr hg w1 hbox hb => ?_; obtain ⟨HB', BR, GR⟩ := bx_ bE hg hbox hb; clear HB hb hbox hg; have HB := HB'; clear HB') | ((with_reducible refine gate_dst (N := 4) rfl ?_); refine bxE (N := 4) (cs := #[.slice Am nm cm, .slice Ah nh ch, .int .u64 0]) (t := 51) fun ga hg w2 hbox hb => ?_; obtain ⟨HB', BA, GA⟩ := bx_ bE hg hbox hb; replace BR := kM BR hb; clear HB hb hbox hg; have HB := HB'; clear HB'; obtain ⟨za, zb, zc, zd, ze, zf, zg, zh, zi, zj, zk⟩ := bk10_ BR; obtain ⟨ya, yb, yc, yd, ye, yf⟩ := bk3_ BA) | (go_at_call 14; (with_reducible refine (ask_Needs.calls _ _ _ _ _ _ _ _ _ _ _ _ _ _ _ (Kd.C_below HR5.out HB.out) HC5.out ⟨hM_.out.below HB.out⟩ FN.out).mono ?_); rintro e' w3 ⟨rfl, hb⟩; replace BR := kM BR hb; replace BA := kM BA hb; replace HB := bS bE hb; clear hb; clear za zb zc zd ze zf zg zh zi zj zk ya yb yc yd ye yf; obtain ⟨ya, yb, yc, yd, ye, yf⟩ := bk3_ BA))
  go_ret
  exact ⟨rfl, HB.out⟩
section
variable (k : Nat) (m u o : ByteArray) (mode : Int) (creds : Bool) (A5 : Option Addr) (c5 : Nat) (l : List S28) (cls tmo grp sig st : Int) (A2 : Option Addr) (c2 : Nat) (l2 : List S28) (now later : Int)
theorem fg_great (w : World) (hr5 : Kd.C k28 w A5 l.length l) (hc5 : l.length ≤ c5) (hr2 : Kd.C k28 w A2 l2.length l2) (hc2 : l2.length ≤ c2) (hM_ : Aside0 (LaidW w)) (b1 b2 : Bool) (F1 : Aside0 (lockkeeperlaw0_GreatReq.f k m u o mode creds l cls tmo grp sig = some b1)) (F2 : Aside0 (lockkeeperlaw0_GreatHeaders.f k l2 = some b2)) (FA : Aside0 (lockkeeperlaw17_awake.f k = some true))
    (hg : b1 = true ∨ b2 = true ∨ now > 4611686018427387904 ∨ later > 4611686018427387904) :
    Calls Tryz.prog 11 #[.agg #[.string m, .string u, .string o, .int .i64 mode, .bool creds, .slice A5 l.length c5, .int .i64 cls, .int .u64 tmo, .int .i64 grp, .int .i64 sig], .int .i64 st, .slice A2 l2.length c2, .int .u64 now, .int .u64 later] w fun e w' => e = .returned (.bool true) ∧ Below w.heap.size w w' := by
  have hu26 := Tryz.underlying26
  have hu51 := Tryz.underlying51
  have HB := Aside0.mk (Below.refl w.heap.size w)
  have HR5 := Aside0.mk hr5
  have HC5 := Aside0.mk hc5
  have HR2 := Aside0.mk hr2
  have HC2 := Aside0.mk hc2
  clear hr5 hc5 hr2 hc2
  by_cases hn : now > 4611686018427387904 <;> by_cases hl : later > 4611686018427387904 <;> cases b1 <;> cases b2 <;> first | (exfalso; rcases hg with h | h | h | h <;> contradiction) | skip
  all_goals
    clear hg
    go_enter Tryz.func11, Tryz.ntmps11
    go_wp2_with (first | ((with_reducible refine gate_dst (N := 5) rfl ?_); refine bxE (N := 5) (cs := #[.string m, .string u, .string o, .int .i64 mode, .bool creds, .slice A5 l.length c5, .int .i64 cls, .int .u64 tmo, .int .i64 grp, .int .i64 sig]) (t := 26) fun gr hg w1 hbox hb => ?_; obtain ⟨HB', BR, GR⟩ := bx_ bE hg hbox hb; clear HB hb hbox hg; have HB := HB'; clear HB'; obtain ⟨za, zb, zc, zd, ze, zf, zg, zh, zi, zj, zk⟩ := bk10_ BR) | (go_at_call 17; (with_reducible refine (lockkeeperlaw0_GreatReq.calls _ _ _ _ _ _ _ _ _ _ _ _ _ _ _ (Kd.C_below HR5.out HB.out) HC5.out F1.out).mono ?_); rintro e' w2 ⟨rfl, hb⟩; replace BR := kM BR hb; replace HB := bS bE hb; clear hb; clear za zb zc zd ze zf zg zh zi zj zk; obtain ⟨za, zb, zc, zd, ze, zf, zg, zh, zi, zj, zk⟩ := bk10_ BR) | (go_at_call 33; (with_reducible refine (lockkeeperlaw0_GreatHeaders.calls _ _ _ _ _ _ (Kd.C_below HR2.out HB.out) HC2.out F2.out).mono ?_); rintro e' w3 ⟨rfl, hd⟩; have hb := hd.below; clear hd; replace BR := kM BR hb; replace HB := bS bE hb; clear hb; clear za zb zc zd ze zf zg zh zi zj zk; obtain ⟨za, zb, zc, zd, ze, zf, zg, zh, zi, zj, zk⟩ := bk10_ BR) | (go_at_call 35; (with_reducible refine (lockkeeperlaw17_awake.calls _ _ _ ⟨hM_.out.below HB.out⟩ FA.out).mono ?_); rintro e' w4 ⟨rfl, hb⟩; replace HB := bS bE hb; clear hb))
    go_ret
    exact ⟨rfl, HB.out⟩
theorem fg_refused (w : World) (hr5 : Kd.C k28 w A5 l.length l) (hc5 : l.length ≤ c5) (hr2 : Kd.C k28 w A2 l2.length l2) (hc2 : l2.length ≤ c2) (hM_ : Aside0 (LaidW w)) (F1 : Aside0 (lockkeeperlaw0_GreatReq.f k m u o mode creds l cls tmo grp sig = some false)) (F2 : Aside0 (lockkeeperlaw0_GreatHeaders.f k l2 = some false)) (FA : Aside0 (lockkeeperlaw17_awake.f k = some true))
    (hn : decide (4611686018427387904 < now) = false) (hl : decide (4611686018427387904 < later) = false) (M H : List ByteArray) (age e : Int) (FJ : Aside0 (flight_Judge.f k m u o mode creds l cls tmo grp sig st l2 = some (M, H, age, e))) (he : (e != 0) = true) (h1 : ((M.length : Int) == 0) = true) (h2 : ((H.length : Int) == 0) = true) :
    Calls Tryz.prog 11 #[.agg #[.string m, .string u, .string o, .int .i64 mode, .bool creds, .slice A5 l.length c5, .int .i64 cls, .int .u64 tmo, .int .i64 grp, .int .i64 sig], .int .i64 st, .slice A2 l2.length c2, .int .u64 now, .int .u64 later] w fun e w' => e = .returned (.bool true) ∧ Below w.heap.size w w' := by
  have hu26 := Tryz.underlying26
  have hu51 := Tryz.underlying51
  have HB := Aside0.mk (Below.refl w.heap.size w)
  have HR5 := Aside0.mk hr5
  have HC5 := Aside0.mk hc5
  have HR2 := Aside0.mk hr2
  have HC2 := Aside0.mk hc2
  clear hr5 hc5 hr2 hc2
  go_enter Tryz.func11, Tryz.ntmps11
  go_wp2_with (first | ((with_reducible refine gate_dst (N := 5) rfl ?_); refine bxE (N := 5) (cs := #[.string m, .string u, .string o, .int .i64 mode, .bool creds, .slice A5 l.length c5, .int .i64 cls, .int .u64 tmo, .int .i64 grp, .int .i64 sig]) (t := 26) fun gr hg w1 hbox hb => ?_; obtain ⟨HB', BR, GR⟩ := bx_ bE hg hbox hb; clear HB hb hbox hg; have HB := HB'; clear HB'; obtain ⟨za, zb, zc, zd, ze, zf, zg, zh, zi, zj, zk⟩ := bk10_ BR) | (go_at_call 17; (with_reducible refine (lockkeeperlaw0_GreatReq.calls _ _ _ _ _ _ _ _ _ _ _ _ _ _ _ (Kd.C_below HR5.out HB.out) HC5.out F1.out).mono ?_); rintro e' w2 ⟨rfl, hb⟩; replace BR := kM BR hb; replace HB := bS bE hb; clear hb; clear za zb zc zd ze zf zg zh zi zj zk; obtain ⟨za, zb, zc, zd, ze, zf, zg, zh, zi, zj, zk⟩ := bk10_ BR) | (go_at_call 33; (with_reducible refine (lockkeeperlaw0_GreatHeaders.calls _ _ _ _ _ _ (Kd.C_below HR2.out HB.out) HC2.out F2.out).mono ?_); rintro e' w3 ⟨rfl, hd⟩; have hb := hd.below; clear hd; replace BR := kM BR hb; replace HB := bS bE hb; clear hb; clear za zb zc zd ze zf zg zh zi zj zk; obtain ⟨za, zb, zc, zd, ze, zf, zg, zh, zi, zj, zk⟩ := bk10_ BR) | (go_at_call 36; (with_reducible refine (flight_Judge.calls _ _ _ _ _ _ _ _ _ _ _ _ _ _ _ _ _ _ _ _ _ _ (Kd.C_below HR5.out HB.out) HC5.out (Kd.C_below HR2.out HB.out) HC2.out ⟨hM_.out.below HB.out⟩ FJ.out).mono ?_); rintro e' w5 ⟨v0, v1, rfl, hv0, hv1, hb⟩; obtain ⟨Am, cm, rfl⟩ := Kd.R_slice hv0; obtain ⟨Ah, ch, rfl⟩ := Kd.R_slice hv1; have RM := Aside0.mk (Kd.R_mono (ok' := fun _ => True) (Kd.R_lower hv0 (below_size HB.out)) (fun _ _ => trivial)); have RH := Aside0.mk (Kd.R_mono (ok' := fun _ => True) (Kd.R_lower hv1 (below_size HB.out)) (fun _ _ => trivial)); clear hv0 hv1; replace BR := kM BR hb; replace HB := bS bE hb; clear hb; clear za zb zc zd ze zf zg zh zi zj zk) | ((with_reducible refine gate_dst (N := 11) rfl ?_); refine bxE (N := 11) (cs := #[.slice none 0 0, .slice none 0 0, .int .u64 0]) (t := 51) fun ga hg w6 hbox hb => ?_; obtain ⟨HB', BA, GA⟩ := bx_ bE hg hbox hb; replace BR := kM BR hb; replace RM := Aside0.mk (Kd.R_below RM.out hb); replace RH := Aside0.mk (Kd.R_below RH.out hb); clear HB hb hbox hg; have HB := HB'; clear HB'; obtain ⟨ya, yb, yc, yd, ye, yf⟩ := bk3_ BA) | ((with_reducible refine gate_store (t := 51) (p := 11) rfl ?_); refine stE (W1 := ?_) ?_ ?_; rotate_left; (go_simp; rfl); intro X hX; clear ya yb yc yd ye yf; have hra : gr ≠ ga := blk_ne BR.out BA.out (by decide); have BR' : Aside0 (X.heap[gr]? = some (.cells #[.string m, .string u, .string o, .int .i64 mode, .bool creds, .slice A5 l.length c5, .int .i64 cls, .int .u64 tmo, .int .i64 grp, .int .i64 sig] 26 (0, 0))) := ⟨by rw [hX]; exact blk_far (p := ⟨ga, 2, none⟩) (blk_far (p := ⟨ga, 1, none⟩) (blk_far (p := ⟨ga, 0, none⟩) BR.out hra _) hra _) hra _⟩; have RM' : Aside0 (Kd.R Kd.string 9 X w.heap.size (fun _ => True) (.slice Am M.length cm) M) := ⟨by rw [hX]; exact Kd.R_set (Kd.R_set (Kd.R_set RM.out BA.out (by decide) 0 _) (blk_put BA.out 0 _ rfl) (by decide) 1 _) (blk_put (blk_put BA.out 0 _ rfl) 1 _ rfl) (by decide) 2 _⟩; have RH' : Aside0 (Kd.R Kd.string 9 X w.heap.size (fun _ => True) (.slice Ah H.length ch) H) := ⟨by rw [hX]; exact Kd.R_set (Kd.R_set (Kd.R_set RH.out BA.out (by decide) 0 _) (blk_put BA.out 0 _ rfl) (by decide) 1 _) (blk_put (blk_put BA.out 0 _ rfl) 1 _ rfl) (by decide) 2 _⟩; have BA' : Aside0 (X.heap[ga]? = some (.cells #[.slice Am M.length cm, .slice Ah H.length ch, .int .u64 age] 51 (0, 0))) := ⟨by rw [hX]; exact blk_put (blk_put (blk_put BA.out 0 _ rfl) 1 _ rfl) 2 _ rfl⟩; have HB' : Aside0 (Below w.heap.size w X) := ⟨by rw [hX]; exact below_set (below_set (below_set HB.out GA.out) GA.out) GA.out⟩; clear hX hra BR RM RH BA HB; have BR := BR'; have RM := RM'; have RH := RH'; have BA := BA'; have HB := HB'; clear BR' RM' RH' BA' HB'; obtain ⟨ya, yb, yc, yd, ye, yf⟩ := bk3_ BA; obtain ⟨za, zb, zc, zd, ze, zf, zg, zh, zi, zj, zk⟩ := bk10_ BR) | (go_at_call 35; (with_reducible refine (lockkeeperlaw17_awake.calls _ _ _ ⟨hM_.out.below HB.out⟩ FA.out).mono ?_); rintro e' w4 ⟨rfl, hb⟩; replace HB := bS bE hb; clear hb))
  go_ret
  exact ⟨rfl, HB.out⟩
theorem fg_age0 (w : World) (hr5 : Kd.C k28 w A5 l.length l) (hc5 : l.length ≤ c5) (hr2 : Kd.C k28 w A2 l2.length l2) (hc2 : l2.length ≤ c2) (hM_ : Aside0 (LaidW w)) (F1 : Aside0 (lockkeeperlaw0_GreatReq.f k m u o mode creds l cls tmo grp sig = some false)) (F2 : Aside0 (lockkeeperlaw0_GreatHeaders.f k l2 = some false)) (FA : Aside0 (lockkeeperlaw17_awake.f k = some true))
    (hn : decide (4611686018427387904 < now) = false) (hl : decide (4611686018427387904 < later) = false) (M H : List ByteArray) (FJ : Aside0 (flight_Judge.f k m u o mode creds l cls tmo grp sig st l2 = some (M, H, 0, 0))) (FN : Aside0 (ask_Needs.f k m u o mode creds l cls tmo grp sig = some true)) :
    Calls Tryz.prog 11 #[.agg #[.string m, .string u, .string o, .int .i64 mode, .bool creds, .slice A5 l.length c5, .int .i64 cls, .int .u64 tmo, .int .i64 grp, .int .i64 sig], .int .i64 st, .slice A2 l2.length c2, .int .u64 now, .int .u64 later] w fun e w' => e = .returned (.bool true) ∧ Below w.heap.size w w' := by
  have hu26 := Tryz.underlying26
  have hu51 := Tryz.underlying51
  have HB := Aside0.mk (Below.refl w.heap.size w)
  have HR5 := Aside0.mk hr5
  have HC5 := Aside0.mk hc5
  have HR2 := Aside0.mk hr2
  have HC2 := Aside0.mk hc2
  clear hr5 hc5 hr2 hc2
  go_enter Tryz.func11, Tryz.ntmps11
  go_wp2_with (first | ((with_reducible refine gate_dst (N := 5) rfl ?_); refine bxE (N := 5) (cs := #[.string m, .string u, .string o, .int .i64 mode, .bool creds, .slice A5 l.length c5, .int .i64 cls, .int .u64 tmo, .int .i64 grp, .int .i64 sig]) (t := 26) fun gr hg w1 hbox hb => ?_; obtain ⟨HB', BR, GR⟩ := bx_ bE hg hbox hb; clear HB hb hbox hg; have HB := HB'; clear HB'; obtain ⟨za, zb, zc, zd, ze, zf, zg, zh, zi, zj, zk⟩ := bk10_ BR) | (go_at_call 17; (with_reducible refine (lockkeeperlaw0_GreatReq.calls _ _ _ _ _ _ _ _ _ _ _ _ _ _ _ (Kd.C_below HR5.out HB.out) HC5.out F1.out).mono ?_); rintro e' w2 ⟨rfl, hb⟩; replace BR := kM BR hb; replace HB := bS bE hb; clear hb; clear za zb zc zd ze zf zg zh zi zj zk; obtain ⟨za, zb, zc, zd, ze, zf, zg, zh, zi, zj, zk⟩ := bk10_ BR) | (go_at_call 33; (with_reducible refine (lockkeeperlaw0_GreatHeaders.calls _ _ _ _ _ _ (Kd.C_below HR2.out HB.out) HC2.out F2.out).mono ?_); rintro e' w3 ⟨rfl, hd⟩; have hb := hd.below; clear hd; replace BR := kM BR hb; replace HB := bS bE hb; clear hb; clear za zb zc zd ze zf zg zh zi zj zk; obtain ⟨za, zb, zc, zd, ze, zf, zg, zh, zi, zj, zk⟩ := bk10_ BR) | (go_at_call 36; (with_reducible refine (flight_Judge.calls _ _ _ _ _ _ _ _ _ _ _ _ _ _ _ _ _ _ _ _ _ _ (Kd.C_below HR5.out HB.out) HC5.out (Kd.C_below HR2.out HB.out) HC2.out ⟨hM_.out.below HB.out⟩ FJ.out).mono ?_); rintro e' w5 ⟨v0, v1, rfl, hv0, hv1, hb⟩; obtain ⟨Am, cm, rfl⟩ := Kd.R_slice hv0; obtain ⟨Ah, ch, rfl⟩ := Kd.R_slice hv1; have RM := Aside0.mk (Kd.R_mono (ok' := fun _ => True) (Kd.R_lower hv0 (below_size HB.out)) (fun _ _ => trivial)); have RH := Aside0.mk (Kd.R_mono (ok' := fun _ => True) (Kd.R_lower hv1 (below_size HB.out)) (fun _ _ => trivial)); clear hv0 hv1; replace BR := kM BR hb; replace HB := bS bE hb; clear hb; clear za zb zc zd ze zf zg zh zi zj zk) | ((with_reducible refine gate_dst (N := 11) rfl ?_); refine bxE (N := 11) (cs := #[.slice none 0 0, .slice none 0 0, .int .u64 0]) (t := 51) fun ga hg w6 hbox hb => ?_; obtain ⟨HB', BA, GA⟩ := bx_ bE hg hbox hb; replace BR := kM BR hb; replace RM := Aside0.mk (Kd.R_below RM.out hb); replace RH := Aside0.mk (Kd.R_below RH.out hb); clear HB hb hbox hg; have HB := HB'; clear HB'; obtain ⟨ya, yb, yc, yd, ye, yf⟩ := bk3_ BA) | ((with_reducible refine gate_store (t := 51) (p := 11) rfl ?_); refine stE (W1 := ?_) ?_ ?_; rotate_left; (go_simp; rfl); intro X hX; clear ya yb yc yd ye yf; have hra : gr ≠ ga := blk_ne BR.out BA.out (by decide); have BR' : Aside0 (X.heap[gr]? = some (.cells #[.string m, .string u, .string o, .int .i64 mode, .bool creds, .slice A5 l.length c5, .int .i64 cls, .int .u64 tmo, .int .i64 grp, .int .i64 sig] 26 (0, 0))) := ⟨by rw [hX]; exact blk_far (p := ⟨ga, 2, none⟩) (blk_far (p := ⟨ga, 1, none⟩) (blk_far (p := ⟨ga, 0, none⟩) BR.out hra _) hra _) hra _⟩; have RM' : Aside0 (Kd.R Kd.string 9 X w.heap.size (fun _ => True) (.slice Am M.length cm) M) := ⟨by rw [hX]; exact Kd.R_set (Kd.R_set (Kd.R_set RM.out BA.out (by decide) 0 _) (blk_put BA.out 0 _ rfl) (by decide) 1 _) (blk_put (blk_put BA.out 0 _ rfl) 1 _ rfl) (by decide) 2 _⟩; have RH' : Aside0 (Kd.R Kd.string 9 X w.heap.size (fun _ => True) (.slice Ah H.length ch) H) := ⟨by rw [hX]; exact Kd.R_set (Kd.R_set (Kd.R_set RH.out BA.out (by decide) 0 _) (blk_put BA.out 0 _ rfl) (by decide) 1 _) (blk_put (blk_put BA.out 0 _ rfl) 1 _ rfl) (by decide) 2 _⟩; have BA' : Aside0 (X.heap[ga]? = some (.cells #[.slice Am M.length cm, .slice Ah H.length ch, .int .u64 0] 51 (0, 0))) := ⟨by rw [hX]; exact blk_put (blk_put (blk_put BA.out 0 _ rfl) 1 _ rfl) 2 _ rfl⟩; have HB' : Aside0 (Below w.heap.size w X) := ⟨by rw [hX]; exact below_set (below_set (below_set HB.out GA.out) GA.out) GA.out⟩; clear hX hra BR RM RH BA HB; have BR := BR'; have RM := RM'; have RH := RH'; have BA := BA'; have HB := HB'; clear BR' RM' RH' BA' HB'; obtain ⟨ya, yb, yc, yd, ye, yf⟩ := bk3_ BA; obtain ⟨za, zb, zc, zd, ze, zf, zg, zh, zi, zj, zk⟩ := bk10_ BR) | (go_at_call 41; (with_reducible refine (grants0_calls k m u o mode creds A5 c5 l cls tmo grp sig _ _ _ _ _ _ now _ (Kd.C_below HR5.out HB.out) HC5.out ⟨hM_.out.below HB.out⟩ FN.out).mono ?_); rintro e' w7 ⟨rfl, hb⟩; replace BR := kM BR hb; replace BA := kM BA hb; replace HB := bS bE hb; clear hb; clear za zb zc zd ze zf zg zh zi zj zk ya yb yc yd ye yf; obtain ⟨ya, yb, yc, yd, ye, yf⟩ := bk3_ BA; obtain ⟨za, zb, zc, zd, ze, zf, zg, zh, zi, zj, zk⟩ := bk10_ BR) | (go_at_call 35; (with_reducible refine (lockkeeperlaw17_awake.calls _ _ _ ⟨hM_.out.below HB.out⟩ FA.out).mono ?_); rintro e' w4 ⟨rfl, hb⟩; replace HB := bS bE hb; clear hb))
  go_ret
  exact ⟨rfl, HB.out⟩
theorem fg_many (w : World) (hr5 : Kd.C k28 w A5 l.length l) (hc5 : l.length ≤ c5) (hr2 : Kd.C k28 w A2 l2.length l2) (hc2 : l2.length ≤ c2) (hM_ : Aside0 (LaidW w)) (F1 : Aside0 (lockkeeperlaw0_GreatReq.f k m u o mode creds l cls tmo grp sig = some false)) (F2 : Aside0 (lockkeeperlaw0_GreatHeaders.f k l2 = some false)) (FA : Aside0 (lockkeeperlaw17_awake.f k = some true))
    (hn : decide (4611686018427387904 < now) = false) (hl : decide (4611686018427387904 < later) = false) (M H : List ByteArray) (age : Int) (FJ : Aside0 (flight_Judge.f k m u o mode creds l cls tmo grp sig st l2 = some (M, H, age, 0))) (FN : Aside0 (ask_Needs.f k m u o mode creds l cls tmo grp sig = some true)) (un : Int) (c1 d2 : ByteArray) (c3 : Bool) (n1 n2 n3 : ByteArray) (n4 : Int) (n5 : Bool) (n6 : List S28) (n7 n8 n9 n10 : Int)
    (FL : Aside0 (M.length ≤ 400000 ∧ H.length ≤ 400000)) (ha0 : (age == 0) = false) (ha1 : decide (0 < age) = true) (FT : Aside0 (tick_Add.f now age = some un)) (FC : Aside0 (ask_Cell.f k m u o mode creds l cls tmo grp sig = some (c1, d2, c3)))
    (FO : Aside0 (ask_Norm.f k m u o mode creds l cls tmo grp sig = some (n1, n2, n3, n4, n5, n6, n7, n8, n9, n10))) (g : List S64) (FG : Aside0 (g = rowH c1 d2 c3 un H (rowM c1 d2 c3 un (msG M n1) []))) (hm : decide (64 < (g.length : Int)) = true) :
    Calls Tryz.prog 11 #[.agg #[.string m, .string u, .string o, .int .i64 mode, .bool creds, .slice A5 l.length c5, .int .i64 cls, .int .u64 tmo, .int .i64 grp, .int .i64 sig], .int .i64 st, .slice A2 l2.length c2, .int .u64 now, .int .u64 later] w fun e w' => e = .returned (.bool true) ∧ Below w.heap.size w w' := by
  have hu26 := Tryz.underlying26
  have hu51 := Tryz.underlying51
  have HB := Aside0.mk (Below.refl w.heap.size w)
  have HR5 := Aside0.mk hr5
  have HC5 := Aside0.mk hc5
  have HR2 := Aside0.mk hr2
  have HC2 := Aside0.mk hc2
  clear hr5 hc5 hr2 hc2
  go_enter Tryz.func11, Tryz.ntmps11
  go_wp2_with (first | ((with_reducible refine gate_dst (N := 5) rfl ?_); refine bxE (N := 5) (cs := #[.string m, .string u, .string o, .int .i64 mode, .bool creds, .slice A5 l.length c5, .int .i64 cls, .int .u64 tmo, .int .i64 grp, .int .i64 sig]) (t := 26) fun gr hg w1 hbox hb => ?_; obtain ⟨HB', BR, GR⟩ := bx_ bE hg hbox hb; clear HB hb hbox hg; have HB := HB'; clear HB'; obtain ⟨za, zb, zc, zd, ze, zf, zg, zh, zi, zj, zk⟩ := bk10_ BR) | (go_at_call 17; (with_reducible refine (lockkeeperlaw0_GreatReq.calls _ _ _ _ _ _ _ _ _ _ _ _ _ _ _ (Kd.C_below HR5.out HB.out) HC5.out F1.out).mono ?_); rintro e' w2 ⟨rfl, hb⟩; replace BR := kM BR hb; replace HB := bS bE hb; clear hb; clear za zb zc zd ze zf zg zh zi zj zk; obtain ⟨za, zb, zc, zd, ze, zf, zg, zh, zi, zj, zk⟩ := bk10_ BR) | (go_at_call 33; (with_reducible refine (lockkeeperlaw0_GreatHeaders.calls _ _ _ _ _ _ (Kd.C_below HR2.out HB.out) HC2.out F2.out).mono ?_); rintro e' w3 ⟨rfl, hd⟩; have hb := hd.below; clear hd; replace BR := kM BR hb; replace HB := bS bE hb; clear hb; clear za zb zc zd ze zf zg zh zi zj zk; obtain ⟨za, zb, zc, zd, ze, zf, zg, zh, zi, zj, zk⟩ := bk10_ BR) | (go_at_call 36; (with_reducible refine (flight_Judge.calls _ _ _ _ _ _ _ _ _ _ _ _ _ _ _ _ _ _ _ _ _ _ (Kd.C_below HR5.out HB.out) HC5.out (Kd.C_below HR2.out HB.out) HC2.out ⟨hM_.out.below HB.out⟩ FJ.out).mono ?_); rintro e' w5 ⟨v0, v1, rfl, hv0, hv1, hb⟩; obtain ⟨Am, cm, rfl⟩ := Kd.R_slice hv0; obtain ⟨Ah, ch, rfl⟩ := Kd.R_slice hv1; have RM := Aside0.mk (Kd.R_mono (ok' := fun _ => True) (Kd.R_lower hv0 (below_size HB.out)) (fun _ _ => trivial)); have RH := Aside0.mk (Kd.R_mono (ok' := fun _ => True) (Kd.R_lower hv1 (below_size HB.out)) (fun _ _ => trivial)); clear hv0 hv1; replace BR := kM BR hb; replace HB := bS bE hb; clear hb; clear za zb zc zd ze zf zg zh zi zj zk) | ((with_reducible refine gate_dst (N := 11) rfl ?_); refine bxE (N := 11) (cs := #[.slice none 0 0, .slice none 0 0, .int .u64 0]) (t := 51) fun ga hg w6 hbox hb => ?_; obtain ⟨HB', BA, GA⟩ := bx_ bE hg hbox hb; replace BR := kM BR hb; replace RM := Aside0.mk (Kd.R_below RM.out hb); replace RH := Aside0.mk (Kd.R_below RH.out hb); clear HB hb hbox hg; have HB := HB'; clear HB'; obtain ⟨ya, yb, yc, yd, ye, yf⟩ := bk3_ BA) | ((with_reducible refine gate_store (t := 51) (p := 11) rfl ?_); refine stE (W1 := ?_) ?_ ?_; rotate_left; (go_simp; rfl); intro X hX; clear ya yb yc yd ye yf; have hra : gr ≠ ga := blk_ne BR.out BA.out (by decide); have BR' : Aside0 (X.heap[gr]? = some (.cells #[.string m, .string u, .string o, .int .i64 mode, .bool creds, .slice A5 l.length c5, .int .i64 cls, .int .u64 tmo, .int .i64 grp, .int .i64 sig] 26 (0, 0))) := ⟨by rw [hX]; exact blk_far (p := ⟨ga, 2, none⟩) (blk_far (p := ⟨ga, 1, none⟩) (blk_far (p := ⟨ga, 0, none⟩) BR.out hra _) hra _) hra _⟩; have RM' : Aside0 (Kd.R Kd.string 9 X w.heap.size (fun _ => True) (.slice Am M.length cm) M) := ⟨by rw [hX]; exact Kd.R_set (Kd.R_set (Kd.R_set RM.out BA.out (by decide) 0 _) (blk_put BA.out 0 _ rfl) (by decide) 1 _) (blk_put (blk_put BA.out 0 _ rfl) 1 _ rfl) (by decide) 2 _⟩; have RH' : Aside0 (Kd.R Kd.string 9 X w.heap.size (fun _ => True) (.slice Ah H.length ch) H) := ⟨by rw [hX]; exact Kd.R_set (Kd.R_set (Kd.R_set RH.out BA.out (by decide) 0 _) (blk_put BA.out 0 _ rfl) (by decide) 1 _) (blk_put (blk_put BA.out 0 _ rfl) 1 _ rfl) (by decide) 2 _⟩; have BA' : Aside0 (X.heap[ga]? = some (.cells #[.slice Am M.length cm, .slice Ah H.length ch, .int .u64 age] 51 (0, 0))) := ⟨by rw [hX]; exact blk_put (blk_put (blk_put BA.out 0 _ rfl) 1 _ rfl) 2 _ rfl⟩; have HB' : Aside0 (Below w.heap.size w X) := ⟨by rw [hX]; exact below_set (below_set (below_set HB.out GA.out) GA.out) GA.out⟩; clear hX hra BR RM RH BA HB; have BR := BR'; have RM := RM'; have RH := RH'; have BA := BA'; have HB := HB'; clear BR' RM' RH' BA' HB'; obtain ⟨ya, yb, yc, yd, ye, yf⟩ := bk3_ BA; obtain ⟨za, zb, zc, zd, ze, zf, zg, zh, zi, zj, zk⟩ := bk10_ BR) | (go_at_call 41; (with_reducible refine (grants_calls k m u o mode creds A5 c5 l cls tmo grp sig _ _ _ _ M H age now un c1 d2 c3 n1 n2 n3 n4 n5 n6 n7 n8 n9 n10 _ (Kd.C_below HR5.out HB.out) HC5.out (Kd.R_reads' RM.out).2.2 (Kd.R_reads' RH.out).2.2 ⟨hM_.out.below HB.out⟩ FL.out FN.out ha0 FT.out FC.out FO.out).mono ?_); rintro e' w7 ⟨v, rfl, hv, hb⟩; rw [← FG.out] at hv; obtain ⟨Ag, cg, rfl⟩ := Kd.R_slice hv; have RG := Aside0.mk (Kd.R_lower hv (below_size HB.out)); clear hv; replace BR := kM BR hb; replace BA := kM BA hb; replace HB := bS bE hb; clear hb RM RH; clear za zb zc zd ze zf zg zh zi zj zk ya yb yc yd ye yf; obtain ⟨ya, yb, yc, yd, ye, yf⟩ := bk3_ BA; obtain ⟨za, zb, zc, zd, ze, zf, zg, zh, zi, zj, zk⟩ := bk10_ BR) | (go_at_call 35; (with_reducible refine (lockkeeperlaw17_awake.calls _ _ _ ⟨hM_.out.below HB.out⟩ FA.out).mono ?_); rintro e' w4 ⟨rfl, hb⟩; replace HB := bS bE hb; clear hb))
  go_ret
  exact ⟨rfl, HB.out⟩
/-- What the loop over the entries holds. -/
def SP (w : World) (gr ga gc : Nat) (ad : Addr) (m u o : ByteArray) (mode : Int) (creds : Bool) (v5 : Value) (cls tmo grp sig : Int) (Rest : World → Prop) (x : S64) (w' : World) : Prop :=
  w'.cell? ad = some (.string x.f0.f0) ∧ w'.cell? ⟨ad.block, ad.off + 1, none⟩ = some (.string x.f0.f1) ∧ w'.cell? ⟨ad.block, ad.off + 2, none⟩ = some (.bool x.f0.f2) ∧ w'.cell? ⟨ad.block, ad.off + 3, none⟩ = some (.string x.f1) ∧ w'.cell? ⟨ad.block, ad.off + 4, none⟩ = some (.string x.f2) ∧ w'.cell? ⟨ad.block, ad.off + 5, none⟩ = some (.int .u64 x.f3) ∧
  w'.cell? ⟨gr, 0, none⟩ = some (.string m) ∧ w'.cell? ⟨gr, 1, none⟩ = some (.string u) ∧ w'.cell? ⟨gr, 2, none⟩ = some (.string o) ∧ w'.cell? ⟨gr, 3, none⟩ = some (.int .i64 mode) ∧ w'.cell? ⟨gr, 4, none⟩ = some (.bool creds) ∧ w'.cell? ⟨gr, 5, none⟩ = some v5 ∧ w'.cell? ⟨gr, 6, none⟩ = some (.int .i64 cls) ∧ w'.cell? ⟨gr, 7, none⟩ = some (.int .u64 tmo) ∧ w'.cell? ⟨gr, 8, none⟩ = some (.int .i64 grp) ∧ w'.cell? ⟨gr, 9, none⟩ = some (.int .i64 sig) ∧
  Aside0 (Rest w')
theorem SP.step {w w' w2 : World} {gr ga gc : Nat} {ad : Addr} {m u o : ByteArray} {mode : Int} {creds : Bool} {v5 : Value} {cls tmo grp sig : Int} {Rest : World → Prop} {x : S64} (h : SP w gr ga gc ad m u o mode creds v5 cls tmo grp sig Rest x w') (hb : Below w'.heap.size w' w2) (hr : Rest w2) : SP w gr ga gc ad m u o mode creds v5 cls tmo grp sig Rest x w2 := by
  obtain ⟨h1, h2, h3, h4, h5, h6, h7, h8, h9, h10, h11, h12, h13, h14, h15, h16, _⟩ := h
  exact ⟨pw_cell_below hb h1, pw_cell_below hb h2, pw_cell_below hb h3, pw_cell_below hb h4, pw_cell_below hb h5, pw_cell_below hb h6, pw_cell_below hb h7, pw_cell_below hb h8, pw_cell_below hb h9, pw_cell_below hb h10, pw_cell_below hb h11, pw_cell_below hb h12, pw_cell_below hb h13, pw_cell_below hb h14, pw_cell_below hb h15, pw_cell_below hb h16, ⟨hr⟩⟩
theorem SP.out {w w' : World} {gr ga gc : Nat} {ad : Addr} {m u o : ByteArray} {mode : Int} {creds : Bool} {v5 : Value} {cls tmo grp sig : Int} {Rest : World → Prop} {x : S64} (h : SP w gr ga gc ad m u o mode creds v5 cls tmo grp sig Rest x w') : Rest w' := h.2.2.2.2.2.2.2.2.2.2.2.2.2.2.2.2.out
theorem R64_own {W : World} {base : Nat} {ok : Nat → Prop} {v : Value} {xs : List S64} (h : Kd.R k64 64 W base ok v xs) : Kd.R k64 64 W base (fun k => v.ownBlock = some k) v xs := by
  obtain ⟨_, inner, ho, hr⟩ := h
  exact ⟨fun _ hk => hk, inner, ho, hr.imp_ fun x cs hx => by
    obtain rfl := k64_openM hx
    exact k64_mkM _ _ _ x⟩
/-- What stays round the loop. -/
def RestL (w : World) (gr ga gc : Nat) (REQV : Array Value) (ALLV : Array Value) (v : Value) (g : List S64) (i : Nat) (w' : World) : Prop :=
  w'.heap[gr]? = some (.cells REQV 26 (0, 0)) ∧ w'.heap[ga]? = some (.cells ALLV 51 (0, 0)) ∧ Kd.R k64 64 w' w.heap.size (fun k => v.ownBlock = some k) v g ∧ IsK w' w.heap.size gc (gr :: ga :: v.ownBlock.toList) (g.take i) 64 ∧ Below w.heap.size w w'
theorem RestL.b {w w' : World} {gr ga gc : Nat} {REQV ALLV : Array Value} {v : Value} {g : List S64} {i : Nat} (h : RestL w gr ga gc REQV ALLV v g i w') : Below w.heap.size w w' ∧ IsK w' w.heap.size gc (gr :: ga :: v.ownBlock.toList) (g.take i) 64 := by
  obtain ⟨_, _, _, h4, h5⟩ := h
  exact ⟨h5, h4⟩
theorem RestL.below {w w' w2 : World} {gr ga gc : Nat} {REQV ALLV : Array Value} {v : Value} {g : List S64} {i : Nat} (h : RestL w gr ga gc REQV ALLV v g i w') (hb : Below w'.heap.size w' w2) : RestL w gr ga gc REQV ALLV v g i w2 := by
  obtain ⟨h1, h2, h3, h4, h5⟩ := h
  exact ⟨blk_below h1 hb, blk_below h2 hb, Kd.R_below h3 hb, h4.below hb, below_step h5 hb⟩
theorem RestL.put {w w' w2 : World} {gr ga gc : Nat} {REQV ALLV : Array Value} {v : Value} {g : List S64} {i j : Nat} (h : RestL w gr ga gc REQV ALLV v g i w') (hc : IsK w2 w.heap.size gc (gr :: ga :: v.ownBlock.toList) (g.take j) 64) (hb : Below w.heap.size w w2) (hf : ∀ f ∈ gr :: ga :: v.ownBlock.toList, w2.heap[f]? = w'.heap[f]?) : RestL w gr ga gc REQV ALLV v g j w2 := by
  obtain ⟨h1, h2, h3, h4, h5⟩ := h
  exact ⟨(hf _ (by simp)).trans h1, (hf _ (by simp)).trans h2, Kd.R_move h3 (fun k hk => hf k (by simp [hk])), hc, hb⟩
/-- What the last region holds. -/
def SQ (gr gn ga : Nat) (m u o : ByteArray) (mode : Int) (creds : Bool) (v5 : Value) (cls tmo grp sig : Int) (n1 : ByteArray) (age : Int) (Rest : World → Prop) (w' : World) : Prop :=
  w'.cell? ⟨gr, 0, none⟩ = some (.string m) ∧ w'.cell? ⟨gr, 1, none⟩ = some (.string u) ∧ w'.cell? ⟨gr, 2, none⟩ = some (.string o) ∧ w'.cell? ⟨gr, 3, none⟩ = some (.int .i64 mode) ∧ w'.cell? ⟨gr, 4, none⟩ = some (.bool creds) ∧ w'.cell? ⟨gr, 5, none⟩ = some v5 ∧ w'.cell? ⟨gr, 6, none⟩ = some (.int .i64 cls) ∧ w'.cell? ⟨gr, 7, none⟩ = some (.int .u64 tmo) ∧ w'.cell? ⟨gr, 8, none⟩ = some (.int .i64 grp) ∧ w'.cell? ⟨gr, 9, none⟩ = some (.int .i64 sig) ∧
  w'.cell? ⟨gn, 0, none⟩ = some (.string n1) ∧ w'.cell? ⟨ga, 2, none⟩ = some (.int .u64 age) ∧ Aside0 (Rest w')
theorem SQ.step {gr gn ga : Nat} {m u o : ByteArray} {mode : Int} {creds : Bool} {v5 : Value} {cls tmo grp sig : Int} {n1 : ByteArray} {age : Int} {Rest : World → Prop} {w' w2 : World} (h : SQ gr gn ga m u o mode creds v5 cls tmo grp sig n1 age Rest w') (hb : Below w'.heap.size w' w2) (hr : Rest w2) : SQ gr gn ga m u o mode creds v5 cls tmo grp sig n1 age Rest w2 := by
  obtain ⟨h1, h2, h3, h4, h5, h6, h7, h8, h9, h10, h11, h12, _⟩ := h
  exact ⟨pw_cell_below hb h1, pw_cell_below hb h2, pw_cell_below hb h3, pw_cell_below hb h4, pw_cell_below hb h5, pw_cell_below hb h6, pw_cell_below hb h7, pw_cell_below hb h8, pw_cell_below hb h9, pw_cell_below hb h10, pw_cell_below hb h11, pw_cell_below hb h12, ⟨hr⟩⟩
theorem SQ.out {gr gn ga : Nat} {m u o : ByteArray} {mode : Int} {creds : Bool} {v5 : Value} {cls tmo grp sig : Int} {n1 : ByteArray} {age : Int} {Rest : World → Prop} {w' : World} (h : SQ gr gn ga m u o mode creds v5 cls tmo grp sig n1 age Rest w') : Rest w' := h.2.2.2.2.2.2.2.2.2.2.2.2.out
theorem fg_main (w : World) (hr5 : Kd.C k28 w A5 l.length l) (hc5 : l.length ≤ c5) (hr2 : Kd.C k28 w A2 l2.length l2) (hc2 : l2.length ≤ c2) (hM_ : Aside0 (LaidW w)) (F1 : Aside0 (lockkeeperlaw0_GreatReq.f k m u o mode creds l cls tmo grp sig = some false)) (F2 : Aside0 (lockkeeperlaw0_GreatHeaders.f k l2 = some false)) (FA : Aside0 (lockkeeperlaw17_awake.f k = some true))
    (hn : decide (4611686018427387904 < now) = false) (hl : decide (4611686018427387904 < later) = false) (M H : List ByteArray) (age : Int) (FJ : Aside0 (flight_Judge.f k m u o mode creds l cls tmo grp sig st l2 = some (M, H, age, 0))) (FN : Aside0 (ask_Needs.f k m u o mode creds l cls tmo grp sig = some true)) (un : Int) (c1 d2 : ByteArray) (c3 : Bool) (n1 n2 n3 : ByteArray) (n4 : Int) (n5 : Bool) (n6 : List S28) (n7 n8 n9 n10 : Int)
    (FL : Aside0 (M.length ≤ 400000 ∧ H.length ≤ 400000)) (ha0 : (age == 0) = false) (ha1 : decide (0 < age) = true) (FT : Aside0 (tick_Add.f now age = some un)) (FC : Aside0 (ask_Cell.f k m u o mode creds l cls tmo grp sig = some (c1, d2, c3)))
    (FO : Aside0 (ask_Norm.f k m u o mode creds l cls tmo grp sig = some (n1, n2, n3, n4, n5, n6, n7, n8, n9, n10))) (g : List S64) (FG : Aside0 (g = rowH c1 d2 c3 un H (rowM c1 d2 c3 un (msG M n1) []))) (hm : decide (64 < (g.length : Int)) = false)
    (HP : Aside0 (g.length ≤ 64 ∧ ∀ i (h : i < g.length), g[i].f0 = ⟨c1, d2, c3⟩ ∧ g[i].f3 = un ∧ (g.take i).any (fun x => decide (x.f3 ≤ now)) = false ∧ (g.take i).any (fun x => sameE x g[i]) = false ∧ g[i].f1.toList.isEmpty = !g[i].f2.toList.isEmpty ∧ ¬ un ≤ now))
    (names : List ByteArray) (sf b : Bool) (FM : Aside0 (ask_Names.f k m u o mode creds l cls tmo grp sig = some names)) (FS : Aside0 (method_Safe.f k n1 = some sf)) (FZ : Aside0 ((∀ n ∈ names, n.size ≤ 9223372036854775807) ∧ names.length ≤ 9223372036854775806))
    (hb0 : decide (later < age) = b) (FV : Aside0 (covC g c1 d2 c3 sf n1 names (IntKind.u64.wrap (now + later)) = b)) (hs0 : 0 ≤ now ∧ 0 ≤ later) :
    Calls Tryz.prog 11 #[.agg #[.string m, .string u, .string o, .int .i64 mode, .bool creds, .slice A5 l.length c5, .int .i64 cls, .int .u64 tmo, .int .i64 grp, .int .i64 sig], .int .i64 st, .slice A2 l2.length c2, .int .u64 now, .int .u64 later] w fun e w' => e = .returned (.bool true) ∧ Below w.heap.size w w' := by
  have hu26 := Tryz.underlying26
  have hu51 := Tryz.underlying51
  have HB := Aside0.mk (Below.refl w.heap.size w)
  have HR5 := Aside0.mk hr5
  have HC5 := Aside0.mk hc5
  have HR2 := Aside0.mk hr2
  have HC2 := Aside0.mk hc2
  clear hr5 hc5 hr2 hc2
  have hu43 := Tryz.underlying43
  have hu64 := Tryz.underlying64
  have PC := Aside0.mk fun (W : World) (hb : Below w.heap.size w W) => ask_Cell.calls k m u o mode creds A5 c5 l cls tmo grp sig c1 d2 c3 W (Kd.C_below HR5.out hb) HC5.out ⟨hM_.out.below hb⟩ FC.out
  have PN := Aside0.mk fun (W : World) (hb : Below w.heap.size w W) => ask_Names.calls k m u o mode creds A5 c5 l cls tmo grp sig names W (Kd.C_below HR5.out hb) HC5.out ⟨hM_.out.below hb⟩ FM.out
  obtain ⟨hs1, hs2⟩ := hs0
  have hs3 := of_decide_eq_false hn
  have hs4 := of_decide_eq_false hl
  have PO := Aside0.mk fun (W : World) (hb : Below w.heap.size w W) => ask_Norm.calls k m u o mode creds A5 c5 l cls tmo grp sig n1 n2 n3 n4 n5 n6 n7 n8 n9 n10 W (Kd.C_below HR5.out hb) HC5.out ⟨hM_.out.below hb⟩ FO.out
  go_enter Tryz.func11, Tryz.ntmps11
  go_wp2_with (first | ((with_reducible refine gate_dst (N := 5) rfl ?_); refine bxE (N := 5) (cs := #[.string m, .string u, .string o, .int .i64 mode, .bool creds, .slice A5 l.length c5, .int .i64 cls, .int .u64 tmo, .int .i64 grp, .int .i64 sig]) (t := 26) fun gr hg w1 hbox hb => ?_; obtain ⟨HB', BR, GR⟩ := bx_ bE hg hbox hb; clear HB hb hbox hg; have HB := HB'; clear HB'; obtain ⟨za, zb, zc, zd, ze, zf, zg, zh, zi, zj, zk⟩ := bk10_ BR) | (go_at_call 17; (with_reducible refine (lockkeeperlaw0_GreatReq.calls _ _ _ _ _ _ _ _ _ _ _ _ _ _ _ (Kd.C_below HR5.out HB.out) HC5.out F1.out).mono ?_); rintro e' w2 ⟨rfl, hb⟩; replace BR := kM BR hb; replace HB := bS bE hb; clear hb; clear za zb zc zd ze zf zg zh zi zj zk; obtain ⟨za, zb, zc, zd, ze, zf, zg, zh, zi, zj, zk⟩ := bk10_ BR) | (go_at_call 33; (with_reducible refine (lockkeeperlaw0_GreatHeaders.calls _ _ _ _ _ _ (Kd.C_below HR2.out HB.out) HC2.out F2.out).mono ?_); rintro e' w3 ⟨rfl, hd⟩; have hb := hd.below; clear hd; replace BR := kM BR hb; replace HB := bS bE hb; clear hb; clear za zb zc zd ze zf zg zh zi zj zk; obtain ⟨za, zb, zc, zd, ze, zf, zg, zh, zi, zj, zk⟩ := bk10_ BR) | (go_at_call 36; (with_reducible refine (flight_Judge.calls _ _ _ _ _ _ _ _ _ _ _ _ _ _ _ _ _ _ _ _ _ _ (Kd.C_below HR5.out HB.out) HC5.out (Kd.C_below HR2.out HB.out) HC2.out ⟨hM_.out.below HB.out⟩ FJ.out).mono ?_); rintro e' w5 ⟨v0, v1, rfl, hv0, hv1, hb⟩; obtain ⟨Am, cm, rfl⟩ := Kd.R_slice hv0; obtain ⟨Ah, ch, rfl⟩ := Kd.R_slice hv1; have RM := Aside0.mk (Kd.R_mono (ok' := fun _ => True) (Kd.R_lower hv0 (below_size HB.out)) (fun _ _ => trivial)); have RH := Aside0.mk (Kd.R_mono (ok' := fun _ => True) (Kd.R_lower hv1 (below_size HB.out)) (fun _ _ => trivial)); clear hv0 hv1; replace BR := kM BR hb; replace HB := bS bE hb; clear hb; clear za zb zc zd ze zf zg zh zi zj zk) | ((with_reducible refine gate_dst (N := 11) rfl ?_); refine bxE (N := 11) (cs := #[.slice none 0 0, .slice none 0 0, .int .u64 0]) (t := 51) fun ga hg w6 hbox hb => ?_; obtain ⟨HB', BA, GA⟩ := bx_ bE hg hbox hb; replace BR := kM BR hb; replace RM := Aside0.mk (Kd.R_below RM.out hb); replace RH := Aside0.mk (Kd.R_below RH.out hb); clear HB hb hbox hg; have HB := HB'; clear HB'; obtain ⟨ya, yb, yc, yd, ye, yf⟩ := bk3_ BA) | ((with_reducible refine gate_store (t := 51) (p := 11) rfl ?_); refine stE (W1 := ?_) ?_ ?_; rotate_left; (go_simp; rfl); intro X hX; clear ya yb yc yd ye yf; have hra : gr ≠ ga := blk_ne BR.out BA.out (by decide); have BR' : Aside0 (X.heap[gr]? = some (.cells #[.string m, .string u, .string o, .int .i64 mode, .bool creds, .slice A5 l.length c5, .int .i64 cls, .int .u64 tmo, .int .i64 grp, .int .i64 sig] 26 (0, 0))) := ⟨by rw [hX]; exact blk_far (p := ⟨ga, 2, none⟩) (blk_far (p := ⟨ga, 1, none⟩) (blk_far (p := ⟨ga, 0, none⟩) BR.out hra _) hra _) hra _⟩; have RM' : Aside0 (Kd.R Kd.string 9 X w.heap.size (fun _ => True) (.slice Am M.length cm) M) := ⟨by rw [hX]; exact Kd.R_set (Kd.R_set (Kd.R_set RM.out BA.out (by decide) 0 _) (blk_put BA.out 0 _ rfl) (by decide) 1 _) (blk_put (blk_put BA.out 0 _ rfl) 1 _ rfl) (by decide) 2 _⟩; have RH' : Aside0 (Kd.R Kd.string 9 X w.heap.size (fun _ => True) (.slice Ah H.length ch) H) := ⟨by rw [hX]; exact Kd.R_set (Kd.R_set (Kd.R_set RH.out BA.out (by decide) 0 _) (blk_put BA.out 0 _ rfl) (by decide) 1 _) (blk_put (blk_put BA.out 0 _ rfl) 1 _ rfl) (by decide) 2 _⟩; have BA' : Aside0 (X.heap[ga]? = some (.cells #[.slice Am M.length cm, .slice Ah H.length ch, .int .u64 age] 51 (0, 0))) := ⟨by rw [hX]; exact blk_put (blk_put (blk_put BA.out 0 _ rfl) 1 _ rfl) 2 _ rfl⟩; have HB' : Aside0 (Below w.heap.size w X) := ⟨by rw [hX]; exact below_set (below_set (below_set HB.out GA.out) GA.out) GA.out⟩; clear hX hra BR RM RH BA HB; have BR := BR'; have RM := RM'; have RH := RH'; have BA := BA'; have HB := HB'; clear BR' RM' RH' BA' HB'; obtain ⟨ya, yb, yc, yd, ye, yf⟩ := bk3_ BA; obtain ⟨za, zb, zc, zd, ze, zf, zg, zh, zi, zj, zk⟩ := bk10_ BR) | (go_at_call 41; (with_reducible refine (grants_calls k m u o mode creds A5 c5 l cls tmo grp sig _ _ _ _ M H age now un c1 d2 c3 n1 n2 n3 n4 n5 n6 n7 n8 n9 n10 _ (Kd.C_below HR5.out HB.out) HC5.out (Kd.R_reads' RM.out).2.2 (Kd.R_reads' RH.out).2.2 ⟨hM_.out.below HB.out⟩ FL.out FN.out ha0 FT.out FC.out FO.out).mono ?_); rintro e' w7 ⟨v, rfl, hv, hb⟩; rw [← FG.out] at hv; obtain ⟨Ag, cg, rfl⟩ := Kd.R_slice hv; have RG := Aside0.mk (Kd.R_lower hv (below_size HB.out)); clear hv; replace BR := kM BR hb; replace BA := kM BA hb; replace HB := bS bE hb; clear hb RM RH; clear za zb zc zd ze zf zg zh zi zj zk ya yb yc yd ye yf; obtain ⟨ya, yb, yc, yd, ye, yf⟩ := bk3_ BA; obtain ⟨za, zb, zc, zd, ze, zf, zg, zh, zi, zj, zk⟩ := bk10_ BR) | (go_at_call 42; (with_reducible refine (newC_calls _).mono ?_); rintro e' w8 ⟨gc, rfl, hk8, hg8, hb⟩; have hgc : w.heap.size ≤ gc := Nat.le_trans (below_size HB.out) hg8; have hF8 : gr < _ ∧ ga < _ := ⟨blk_lt BR.out, blk_lt BA.out⟩; have hG8 := Kd.R_lt RG.out; have BC := Aside0.mk (show _ ∧ _ ∧ _ from ⟨hk8, hgc, (show gr ≠ gc ∧ ga ≠ gc ∧ ∀ q, (Value.slice Ag g.length cg).ownBlock = some q → q ≠ gc from ⟨by have := hF8.1; omega, by have := hF8.2; omega, fun q hq => by have := hG8 q hq; omega⟩)⟩); clear hk8 hg8 hgc hF8 hG8; replace BR := kM BR hb; replace BA := kM BA hb; replace RG := Aside0.mk (Kd.R_below RG.out hb); replace HB := bS bE hb; clear hb) | (go_at_call 35; (with_reducible refine (lockkeeperlaw17_awake.calls _ _ _ ⟨hM_.out.below HB.out⟩ FA.out).mono ?_); rintro e' w4 ⟨rfl, hb⟩; replace HB := bS bE hb; clear hb))
  clear za zb zc zd ze zf zg zh zi zj zk ya yb yc yd ye yf
  have HL0 : Aside0 (RestL w gr ga gc #[.string m, .string u, .string o, .int .i64 mode, .bool creds, .slice A5 l.length c5, .int .i64 cls, .int .u64 tmo, .int .i64 grp, .int .i64 sig] #[.slice Am M.length cm, .slice Ah H.length ch, .int .u64 age] (.slice Ag g.length cg) g 0 w8) := ⟨BR.out, BA.out, R64_own RG.out, ⟨_, BC.out.1, BC.out.2.1, fun f hf => by
    rcases List.mem_cons.1 hf with rfl | hf
    · exact ⟨blk_lt BR.out, BC.out.2.2.1⟩
    rcases List.mem_cons.1 hf with rfl | hf
    · exact ⟨blk_lt BA.out, BC.out.2.2.2.1⟩
    · have hq := Option.mem_toList.1 hf
      exact ⟨Kd.R_lt RG.out f hq, BC.out.2.2.2.2 f hq⟩, by rw [List.take_zero]; exact Kd.R_nil _ _ _ _ _⟩, HB.out⟩
  clear BR BA RG BC HB
  have hgl := HP.out.1
  go_loopg [15] g.length (fun gg s15 wr => ∃ i : Nat, i ≤ g.length ∧ g.length - i ≤ gg ∧ s15 = .int .i64 i ∧ Aside0 (RestL w gr ga gc #[.string m, .string u, .string o, .int .i64 mode, .bool creds, .slice A5 l.length c5, .int .i64 cls, .int .u64 tmo, .int .i64 grp, .int .i64 sig] #[.slice Am M.length cm, .slice Ah H.length ch, .int .u64 age] (.slice Ag g.length cg) g i wr))
  case atStart => exact ⟨0, Nat.zero_le _, by omega, rfl, HL0⟩
  case round =>
    clear HL0
    obtain ⟨i, hi, hg, rfl, HL⟩ := hrel
    by_cases hlt : i < g.length
    · have p5 : decide ((i : Int) < (g.length : Int)) = true := decide_eq_true (by omega)
      have p6 : (0 : Int) ≤ (i : Int) := by omega
      have p7 : (i : Int) < (g.length : Int) := by omega
      have hx := at_T64 (Kd.R_reads' HL.out.2.2.1).2.2 (i : Int) (by omega) (by omega)
      have hy : rd_T64 g (i : Int) = g[i] := by simp [rd_T64, List.getD_eq_getElem?_getD, List.getElem?_eq_getElem hlt]
      rw [hy] at hx
      obtain ⟨hf0, hf3, hq1, hq2, hq3, hq4⟩ := HP.out.2 i hlt
      have hlen : (g.take i).length ≤ 1000 ∧ ((g.take i).length : Int) < 64 := by
        have := HP.out.1
        rw [List.length_take]
        omega
      have htk : g.take (i + 1) = g.take i ++ [g[i]] := List.take_succ_eq_append_getElem hlt
      clear hy
      generalize g[i] = x at hx hf0 hf3 hq2 hq3 htk
      obtain ⟨⟨x0, x1, x2⟩, x3, x4, x5⟩ := x
      obtain ⟨rfl, rfl, rfl⟩ : c1 = x0 ∧ d2 = x1 ∧ c3 = x2 := by
        injection hf0 with h1 h2 h3
        exact ⟨h1.symm, h2.symm, h3.symm⟩
      obtain rfl : un = x5 := hf3.symm
      have FX := Aside0.mk (⟨hq1, hq2, hq3, hq4, hlen, htk⟩ : _ ∧ _ ∧ _ ∧ _ ∧ _ ∧ _)
      clear hf0 hf3 hq1 hq2 hq3 hq4 hlen htk
      dsimp only at hx
      obtain ⟨ad, e0, q0, q1, q2, q3, q4, q5⟩ := hx
      cases e0
      rw [Int.toNat_natCast] at q0 q1 q2 q3 q4 q5
      go_wp2
      have hd : Below wr.heap.size wr wr.drew := below_drew1 (Below.refl _ _)
      have BR := Aside0.mk (HL.out.below hd).1
      have hS : SP w gr ga gc (ad.add (i * 6)) m u o mode creds (.slice A5 l.length c5) cls tmo grp sig (RestL w gr ga gc #[.string m, .string u, .string o, .int .i64 mode, .bool creds, .slice A5 l.length c5, .int .i64 cls, .int .u64 tmo, .int .i64 grp, .int .i64 sig] #[.slice Am M.length cm, .slice Ah H.length ch, .int .u64 age] (.slice (some ad) g.length cg) g i) ⟨⟨c1, d2, c3⟩, x3, x4, un⟩ wr.drew := by
        obtain ⟨za, zb, zc, zd, ze, zf, zg, zh, zi, zj, zk⟩ := bk10_ BR
        exact ⟨pw_cell_below hd q0, pw_cell_below hd q1, pw_cell_below hd q2, pw_cell_below hd q3, pw_cell_below hd q4, pw_cell_below hd q5, za, zb, zc, zd, ze, zf, zg, zh, zi, zj, ⟨HL.out.below hd⟩⟩
      clear hd BR HL q0 q1 q2 q3 q4 q5
      refine start_ (n := 18) (S := SP w gr ga gc (ad.add (i * 6)) m u o mode creds (.slice A5 l.length c5) cls tmo grp sig (RestL w gr ga gc #[.string m, .string u, .string o, .int .i64 mode, .bool creds, .slice A5 l.length c5, .int .i64 cls, .int .u64 tmo, .int .i64 grp, .int .i64 sig] #[.slice Am M.length cm, .slice Ah H.length ch, .int .u64 age] (.slice (some ad) g.length cg) g i) ⟨⟨c1, d2, c3⟩, x3, x4, un⟩) (ds := [15]) (bz 18 0) (by kernel_rfl) rfl rfl hS (fun hHeld => ?_)
      clear hS
      generalize wr.drew = w9 at hHeld ⊢
      refine qA 0 86 18 1 ?_
      refine qA 1 87 18 3 ?_
      refine qA 2 88 18 7 ?_
      refine qA 3 89 18 15 ?_
      refine tA17 4 90 18 31 ?_
      refine tA17 5 91 18 63 ?_
      refine oB 6 92 18 127 fun K hK => ?_
      refine goes_ Tryz.func29 (by kernel_rfl) rfl #[.agg #[.string m, .string u, .string o, .int .i64 mode, .bool creds, .slice A5 l.length c5, .int .i64 cls, .int .u64 tmo, .int .i64 grp, .int .i64 sig]] (by rfl) rfl rfl (by (try simp only [List.map_toArray, List.map_cons, List.map_nil]); first | done | rfl) ?_
      (with_reducible refine (PC.out _ hHeld.out.b.1).mono ?_)
      rintro e' wb ⟨rfl, hb⟩
      refine ⟨_, rfl, ?_⟩
      refine hK.out _ _ (hHeld.step hb (hHeld.out.below hb)) (fun hHeld' => ?_)
      clear hK K hHeld
      have hHeld := hHeld'
      clear hHeld' hb
      refine nA 92 ?_
      refine qA 7 93 18 255 ?_
      refine qA 8 94 18 511 ?_
      refine qA 9 95 18 1023 ?_
      refine qA 10 96 18 2047 ?_
      refine qA 11 97 18 4095 ?_
      refine qA 12 98 18 8191 ?_
      refine tA17 13 99 18 16383 ?_
      refine qA 14 100 18 32767 ?_
      have hcall := put_calls (gr :: ga :: (Value.slice (some ad) g.length cg).ownBlock.toList) gc (g.take i) 64 ⟨⟨c1, d2, c3⟩, x3, x4, un⟩ now w wb hHeld.out.b.1 hHeld.out.b.2 FX.out.2.2.2.2.1.1 FX.out.1 FX.out.2.1 FX.out.2.2.2.2.1.2 FX.out.2.2.1 (show ¬ un ≤ now by have h_ := FX.out.2.2.2.1; omega)
      unfold celE at hcall
      dsimp only at hcall
      have HR9 := Aside0.mk hHeld.out
      refine last_ (i := 15) (N := some 101) (bz 18 65535) rfl rfl (by kernel_rfl) (by decide) (fun K hK => ?_)
      refine goes_ Tryz.func43 (by kernel_rfl) rfl #[.pointer (some ⟨gc, 0, none⟩), .agg #[.string c1, .string d2, .bool c3, .string x3, .string x4, .int .u64 un], .int .u64 now] (by rfl) rfl rfl (by (try simp only [List.map_toArray, List.map_cons, List.map_nil]); first | done | rfl) ?_
      (with_reducible refine hcall.mono ?_)
      rintro e' wc ⟨rfl, hk, hb, hf⟩
      refine ⟨_, rfl, ?_⟩
      have HRn := Aside0.mk (RestL.put (j := i + 1) HR9.out (by rw [FX.out.2.2.2.2.2]; exact hk) hb hf)
      clear hcall HR9 hHeld hk hb hf
      refine hK.out _ _ ?_
      clear hK K
      refine nA 101 ?_
      refine qA 16 102 18 131071 ?_
      refine qA 17 103 18 262143 ?_
      refine done_ (by kernel_rfl) ?_
      go_wp2
      go_roundg (g.length - (i + 1))
      case measure => omega
      case rel => exact ⟨i + 1, by omega, by omega, by go_num, HRn⟩
    · have p5 : decide ((i : Int) < (g.length : Int)) = false := decide_eq_false (by omega)
      obtain ⟨hR, hA, _, hC, hB⟩ := HL.out
      rw [List.take_of_length_le (by omega)] at hC
      have BR := Aside0.mk hR
      have BA := Aside0.mk hA
      have IC := Aside0.mk hC.isC
      have HB := Aside0.mk hB
      clear hR hA hC hB HL
      obtain ⟨za, zb, zc, zd, ze, zf, zg, zh, zi, zj, zk⟩ := bk10_ BR
      obtain ⟨ya, yb, yc, yd, ye, yf⟩ := bk3_ BA
      go_wp2_with (first | (go_at_call 20; (with_reducible refine (PO.out _ HB.out).mono ?_); rintro e' wd ⟨v5, rfl, hv5, hb⟩; obtain ⟨A6, c6, rfl⟩ := Kd.R_slice hv5; replace BR := kM BR hb; replace BA := kM BA hb; replace IC := Aside0.mk (IC.out.below hb); replace HB := bS bE hb; clear hb hv5; clear za zb zc zd ze zf zg zh zi zj zk ya yb yc yd ye yf; obtain ⟨ya, yb, yc, yd, ye, yf⟩ := bk3_ BA; obtain ⟨za, zb, zc, zd, ze, zf, zg, zh, zi, zj, zk⟩ := bk10_ BR) | ((with_reducible refine gate_dst (N := 16) rfl ?_); refine bxE (N := 16) (cs := #[.string ⟨#[]⟩, .string ⟨#[]⟩, .string ⟨#[]⟩, .int .i64 0, .bool false, .slice none 0 0, .int .i64 0, .int .u64 0, .int .i64 0, .int .i64 0]) (t := 26) fun gn hg we hbox hb => ?_; have BN := Aside0.mk hbox; have HN := Aside0.mk hb; have GN := Aside0.mk (Nat.le_of_eq hg.symm); clear hbox hb hg; obtain ⟨xa, xb, xc, xd, xe, xf, xg, xh, xi, xj, xk⟩ := bk10_ BN; obtain ⟨xl, xm, xn, xo, xp, xq, xr, xs, xt, xu⟩ := xk) | ((with_reducible refine gate_store (t := 26) (p := 16) rfl ?_); refine stE (W1 := ?_) ?_ ?_; rotate_left; (go_simp; rfl); intro X hX; have HX : Aside0 (Below wd.heap.size wd X) := ⟨by rw [hX]; exact below_set (below_set (below_set (below_set (below_set (below_set (below_set (below_set (below_set (below_set HN.out GN.out) GN.out) GN.out) GN.out) GN.out) GN.out) GN.out) GN.out) GN.out) GN.out⟩; have hn0 : X.cell? ⟨gn, 0, none⟩ = some (.string n1) := (by rw [hX]; go_simp); clear xa xb xc xd xe xf xg xh xi xj xl xm xn xo xp xq xr xs xt xu hX HN BN GN; have hb := HX.out; replace BR := Aside0.mk (blk_below BR.out hb); replace BA := Aside0.mk (blk_below BA.out hb); replace IC := Aside0.mk (IC.out.below hb); replace HB := Aside0.mk (below_step HB.out hb); clear hb HX; clear za zb zc zd ze zf zg zh zi zj zk ya yb yc yd ye yf; obtain ⟨ya, yb, yc, yd, ye, yf⟩ := bk3_ BA; obtain ⟨za, zb, zc, zd, ze, zf, zg, zh, zi, zj, zk⟩ := bk10_ BR))
      have hd : Below X.heap.size X X.drew := below_drew1 (Below.refl _ _)
      have hB0 := below_step HB.out hd
      have hC0 := IC.out.below hd
      have hn1 := pw_cell_below hd hn0
      have BR' := Aside0.mk (blk_below BR.out hd)
      have BA' := Aside0.mk (blk_below BA.out hd)
      have hS : SQ gr gn ga m u o mode creds (.slice A5 l.length c5) cls tmo grp sig n1 age (fun w' => IsC w' w.heap.size gc g 64 ∧ Below w.heap.size w w') X.drew := by
        obtain ⟨a1, a2, a3, a4, a5, a6, a7, a8, a9, a10, _⟩ := bk10_ BR'
        obtain ⟨_, _, a11, _⟩ := bk3_ BA'
        exact ⟨a1, a2, a3, a4, a5, a6, a7, a8, a9, a10, hn1, a11, ⟨hC0, hB0⟩⟩
      clear za zb zc zd ze zf zg zh zi zj zk ya yb yc yd ye yf hd hB0 hC0 hn0 hn1 BR BR' BA BA' IC HB
      refine start_ (n := 20) (S := SQ gr gn ga m u o mode creds (.slice A5 l.length c5) cls tmo grp sig n1 age (fun w' => IsC w' w.heap.size gc g 64 ∧ Below w.heap.size w w')) (ds := []) (bz 20 0) (by kernel_rfl) rfl rfl hS (fun hHeld => ?_)
      clear hS
      generalize X.drew = wf at hHeld ⊢
      refine qA 0 106 20 1 ?_
      refine tA13 1 107 20 3 ?_
      refine qA 3 109 20 11 ?_
      refine tA13 4 110 20 27 ?_
      refine tA13 5 111 20 59 ?_
      refine qA 7 113 20 187 ?_
      refine qA 8 114 20 443 ?_
      refine qA 9 115 20 955 ?_
      refine qA 11 117 20 3003 ?_
      refine qA 12 118 20 7099 ?_
      refine tA13 13 119 20 15291 ?_
      refine qA 14 120 20 31675 ?_
      refine oB 2 108 20 31679 fun K hK => ?_
      refine goes_ Tryz.func29 (by kernel_rfl) rfl #[.agg #[.string m, .string u, .string o, .int .i64 mode, .bool creds, .slice A5 l.length c5, .int .i64 cls, .int .u64 tmo, .int .i64 grp, .int .i64 sig]] (by rfl) rfl rfl (by (try simp only [List.map_toArray, List.map_cons, List.map_nil]); first | done | rfl) ?_
      (with_reducible refine (PC.out _ hHeld.out.2).mono ?_)
      rintro e' wh ⟨rfl, hb⟩
      refine ⟨_, rfl, ?_⟩
      refine hK.out _ _ (hHeld.step hb ⟨hHeld.out.1.below hb, below_step hHeld.out.2 hb⟩) (fun hHeld' => ?_)
      clear hK K hHeld
      have hHeld := hHeld'
      clear hHeld' hb
      refine nA 108 ?_
      refine oB 6 112 20 31743 fun K hK => ?_
      refine goes_ Tryz.func24 (by kernel_rfl) rfl #[.agg #[.string m, .string u, .string o, .int .i64 mode, .bool creds, .slice A5 l.length c5, .int .i64 cls, .int .u64 tmo, .int .i64 grp, .int .i64 sig]] (by rfl) rfl rfl (by (try simp only [List.map_toArray, List.map_cons, List.map_nil]); first | done | rfl) ?_
      (with_reducible refine (PN.out _ hHeld.out.2).mono ?_)
      rintro e' wi ⟨v7, rfl, hv7, hb⟩
      obtain ⟨A7, c7, rfl⟩ := Kd.R_slice hv7
      have HV := Aside0.mk (Kd.R_reads' hv7).2.2
      clear hv7
      refine ⟨_, rfl, ?_⟩
      refine hK.out _ _ (hHeld.step hb ⟨hHeld.out.1.below hb, below_step hHeld.out.2 hb⟩) (fun hHeld' => ?_)
      clear hK K hHeld
      have hHeld := hHeld'
      clear hHeld' hb
      refine nA 112 ?_
      have hcall := covC_calls k gc g 64 c1 d2 c3 sf n1 A7 c7 names (IntKind.u64.wrap (now + later)) w.heap.size wi hHeld.out.1 (by omega) FS.out HV.out FZ.out.1 FZ.out.2
      rw [FV.out] at hcall
      refine oB 10 116 20 32767 fun K hK => ?_
      refine goes_ Tryz.func44 (by kernel_rfl) rfl #[.pointer (some ⟨gc, 0, none⟩), .agg #[.string c1, .string d2, .bool c3], .string n1, .slice A7 names.length c7, .int .u64 (IntKind.u64.wrap (now + later))] (by rfl) rfl rfl (by (try simp only [List.map_toArray, List.map_cons, List.map_nil]); first | done | rfl) ?_
      (with_reducible refine hcall.mono ?_)
      rintro e' wj ⟨rfl, hb⟩
      refine ⟨_, rfl, ?_⟩
      refine hK.out _ _ (hHeld.step hb ⟨hHeld.out.1.below hb, below_step hHeld.out.2 hb⟩) (fun hHeld' => ?_)
      clear hK K hHeld hcall HV
      have hHeld := hHeld'
      clear hHeld' hb
      refine nA 116 ?_
      refine qA 15 121 20 65535 ?_
      refine qA 16 122 20 131071 ?_
      refine oB 17 123 20 262143 fun K hK => ?_
      refine goes_ Tryz.func35 (by kernel_rfl) rfl #[] (by rfl) rfl rfl (by simp) ?_
      (with_reducible refine (lockkeeperlaw17_awake.calls _ _ _ ⟨hM_.out.below hHeld.out.2⟩ FA.out).mono ?_)
      rintro e' wk ⟨rfl, hb⟩
      refine ⟨_, rfl, ?_⟩
      refine hK.out _ _ (hHeld.step hb ⟨hHeld.out.1.below hb, below_step hHeld.out.2 hb⟩) (fun hHeld' => ?_)
      clear hK K hHeld
      have hHeld := hHeld'
      clear hHeld' hb
      refine nA 123 ?_
      refine qA 18 124 20 524287 ?_
      refine qA 19 10 20 1048575 ?_
      refine done_ (by kernel_rfl) ?_
      go_wp2
      go_ret
      exact ⟨rfl, hHeld.out.2⟩
end
theorem sameE_eq {x e : S64} (h0 : x.f0 = e.f0) (h3 : x.f3 = e.f3) (h : eqE e x = false) : sameE x e = false := by
  cases hs : sameE x e with
  | false => rfl
  | true =>
    exfalso
    unfold sameE at hs
    split at hs
    · split at hs
      · rename_i h1 h2
        have h4 : x.f2.toList = e.f2.toList := eq_of_beq hs
        unfold eqE at h
        rw [← h0, h2, h4, h3] at h
        simp at h
      · cases hs
    · cases hs
theorem nilE : (⟨#[]⟩ : ByteArray).toList.isEmpty = true := by first | decide | kernel_rfl | (rw [ByteArray.toList, ByteArray.toList.loop]; rfl) | simp [ByteArray.toList]
def InvG (c1 d2 : ByteArray) (c3 : Bool) (un : Int) (xs : List S64) : Prop := (∀ x ∈ xs, x.f0 = ⟨c1, d2, c3⟩ ∧ x.f3 = un ∧ x.f1.toList.isEmpty = !x.f2.toList.isEmpty) ∧ xs.Pairwise fun x y => sameE x y = false
theorem InvG.add {c1 d2 : ByteArray} {c3 : Bool} {un : Int} {xs : List S64} (h : InvG c1 d2 c3 un xs) (e : S64) (h0 : e.f0 = ⟨c1, d2, c3⟩) (h3 : e.f3 = un) (hx : e.f1.toList.isEmpty = !e.f2.toList.isEmpty) : InvG c1 d2 c3 un (addE xs e) := by
  unfold addE
  split
  · exact h
  · rename_i hn
    refine ⟨fun x hm => ?_, ?_⟩
    · rcases List.mem_append.1 hm with hm | hm
      · exact h.1 x hm
      · obtain rfl := List.mem_singleton.1 hm
        exact ⟨h0, h3, hx⟩
    · refine List.pairwise_append.2 ⟨h.2, List.pairwise_singleton _ _, fun x hm y hy => ?_⟩
      obtain rfl := List.mem_singleton.1 hy
      have h5 := h.1 x hm
      refine sameE_eq (h5.1.trans h0.symm) (h5.2.1.trans h3.symm) ?_
      cases hq : eqE y x with
      | false => rfl
      | true => exact absurd (List.any_eq_true.2 ⟨x, hm, hq⟩) hn
theorem InvG.rowM {c1 d2 : ByteArray} {c3 : Bool} {un : Int} (ms : List ByteArray) (hm : (ms.all fun m => !m.toList.isEmpty) = true) : ∀ xs, InvG c1 d2 c3 un xs → InvG c1 d2 c3 un (rowM c1 d2 c3 un ms xs) := by
  induction ms with
  | nil => exact fun xs h => h
  | cons m r ih =>
    intro xs h
    rw [List.all_cons, Bool.and_eq_true] at hm
    exact ih hm.2 _ (h.add _ rfl rfl (by show m.toList.isEmpty = !(⟨#[]⟩ : ByteArray).toList.isEmpty; rw [nilE]; simpa using hm.1))
theorem InvG.rowH {c1 d2 : ByteArray} {c3 : Bool} {un : Int} (ms : List ByteArray) (hm : (ms.all fun m => !m.toList.isEmpty) = true) : ∀ xs, InvG c1 d2 c3 un xs → InvG c1 d2 c3 un (rowH c1 d2 c3 un ms xs) := by
  induction ms with
  | nil => exact fun xs h => h
  | cons m r ih =>
    intro xs h
    rw [List.all_cons, Bool.and_eq_true] at hm
    have h1 : m.toList.isEmpty = false := by simpa using hm.1
    exact ih hm.2 _ (h.add _ rfl rfl (by show (⟨#[]⟩ : ByteArray).toList.isEmpty = !m.toList.isEmpty; rw [h1, nilE]; rfl))
theorem InvG.at_ {c1 d2 : ByteArray} {c3 : Bool} {un now : Int} {g : List S64} (h : InvG c1 d2 c3 un g) (hn : now < un) : ∀ i (hi : i < g.length), g[i].f0 = ⟨c1, d2, c3⟩ ∧ g[i].f3 = un ∧ (g.take i).any (fun x => decide (x.f3 ≤ now)) = false ∧ (g.take i).any (fun x => sameE x g[i]) = false ∧ g[i].f1.toList.isEmpty = !g[i].f2.toList.isEmpty ∧ ¬ un ≤ now := by
  intro i hi
  obtain ⟨h1, h2, h3⟩ := h.1 g[i] (List.getElem_mem hi)
  refine ⟨h1, h2, ?_, ?_, h3, by omega⟩
  · rw [List.any_eq_false]
    intro x hx
    have := (h.1 x (List.mem_of_mem_take hx)).2.1
    simp only [decide_eq_true_eq]
    omega
  · rw [List.any_eq_false]
    intro x hx
    obtain ⟨j, hj, rfl⟩ := List.mem_iff_getElem.1 hx
    rw [List.length_take] at hj
    rw [List.getElem_take]
    have := List.pairwise_iff_getElem.1 h.2 j i (by omega) hi (by omega)
    rw [this]
    simp
def mainG (k : Nat) (a0_0 a0_1 a0_2 : ByteArray) (a0_3 : Int) (a0_4 : Bool) (l0_5 : List S28) (a0_6 a0_7 a0_8 a0_9 a3 a4 : Int) (M H : List ByteArray) (age un : Int) (c1 d2 : ByteArray) (c3 : Bool) (n1 : ByteArray) : Option Bool :=
  if M.length ≤ 400000 ∧ H.length ≤ 400000 ∧ 0 < age ∧ 0 ≤ a3 ∧ 0 ≤ a4 then (if 64 < (rowH c1 d2 c3 un H (rowM c1 d2 c3 un (msG M n1) [])).length then some true else
    (ask_Names.f k a0_0 a0_1 a0_2 a0_3 a0_4 l0_5 a0_6 a0_7 a0_8 a0_9).bind fun names => (method_Safe.f k n1).bind fun sf =>
      if a3 < un ∧ ((msG M n1).all fun m => !m.toList.isEmpty) = true ∧ (H.all fun m => !m.toList.isEmpty) = true ∧ (names.all fun n => decide (n.size ≤ 9223372036854775807)) = true ∧ names.length ≤ 9223372036854775806 ∧
        covC (rowH c1 d2 c3 un H (rowM c1 d2 c3 un (msG M n1) [])) c1 d2 c3 sf n1 names (IntKind.u64.wrap (a3 + a4)) = decide (a4 < age) then some true else none) else none
def lockkeeperlaw17_FlightGrants.f (k : Nat) (a0_0 a0_1 a0_2 : ByteArray) (a0_3 : Int) (a0_4 : Bool) (l0_5 : List S28) (a0_6 a0_7 a0_8 a0_9 a1 : Int) (l2 : List S28) (a3 a4 : Int) : Option (Bool) :=
  (lockkeeperlaw0_GreatReq.f k a0_0 a0_1 a0_2 a0_3 a0_4 l0_5 a0_6 a0_7 a0_8 a0_9).bind fun b1 => (lockkeeperlaw0_GreatHeaders.f k l2).bind fun b2 => (lockkeeperlaw17_awake.f k).bind fun aw =>
    if aw = true then (if b1 = true ∨ b2 = true ∨ a3 > 4611686018427387904 ∨ a4 > 4611686018427387904 then some true else
      (flight_Judge.f k a0_0 a0_1 a0_2 a0_3 a0_4 l0_5 a0_6 a0_7 a0_8 a0_9 a1 l2).bind fun j =>
        if j.2.2.2 = 0 then ((ask_Needs.f k a0_0 a0_1 a0_2 a0_3 a0_4 l0_5 a0_6 a0_7 a0_8 a0_9).bind fun nd =>
          if nd = true then (if j.2.2.1 = 0 then some true else
            (tick_Add.f a3 j.2.2.1).bind fun un => (ask_Cell.f k a0_0 a0_1 a0_2 a0_3 a0_4 l0_5 a0_6 a0_7 a0_8 a0_9).bind fun c => (ask_Norm.f k a0_0 a0_1 a0_2 a0_3 a0_4 l0_5 a0_6 a0_7 a0_8 a0_9).bind fun n =>
              mainG k a0_0 a0_1 a0_2 a0_3 a0_4 l0_5 a0_6 a0_7 a0_8 a0_9 a3 a4 j.1 j.2.1 j.2.2.1 un c.1 c.2.1 c.2.2 n.1) else none)
        else (if j.1.length = 0 ∧ j.2.1.length = 0 then some true else none)) else none
theorem lockkeeperlaw17_FlightGrants.calls (k : Nat) (a0_0 : ByteArray) (a0_1 : ByteArray) (a0_2 : ByteArray) (a0_3 : Int) (a0_4 : Bool) (A0_5 : Option Addr) (c0_5 : Nat) (l0_5 : List (S28)) (a0_6 : Int) (a0_7 : Int) (a0_8 : Int) (a0_9 : Int) (a1 : Int) (A2 : Option Addr) (c2 : Nat) (l2 : List (S28)) (a3 : Int) (a4 : Int) (r : Bool) (w : World) (hr0_5 : Kd.C k28 w A0_5 l0_5.length l0_5) (hc0_5 : l0_5.length ≤ c0_5) (hr2 : Kd.C k28 w A2 l2.length l2) (hc2 : l2.length ≤ c2) (hM_ : Aside0 (LaidW w)) (hr_ : r = true) (h : lockkeeperlaw17_FlightGrants.f k a0_0 a0_1 a0_2 a0_3 a0_4 l0_5 a0_6 a0_7 a0_8 a0_9 a1 l2 a3 a4 = some r) :
    Calls Tryz.prog 11 #[.agg #[.string a0_0, .string a0_1, .string a0_2, .int .i64 a0_3, .bool a0_4, .slice A0_5 l0_5.length c0_5, .int .i64 a0_6, .int .u64 a0_7, .int .i64 a0_8, .int .i64 a0_9], .int .i64 a1, .slice A2 l2.length c2, .int .u64 a3, .int .u64 a4] w fun e w' => e = .returned (.bool r) ∧ Below w.heap.size w w' := by
  subst hr_
  unfold lockkeeperlaw17_FlightGrants.f at h
  obtain ⟨b1, F1, h_⟩ := Option.bind_eq_some_iff.1 h
  clear h
  have h := h_
  clear h_
  obtain ⟨b2, F2, h_⟩ := Option.bind_eq_some_iff.1 h
  clear h
  have h := h_
  clear h_
  obtain ⟨aw, FA, h_⟩ := Option.bind_eq_some_iff.1 h
  clear h
  have h := h_
  clear h_
  by_cases ha : aw = true
  case neg => rw [if_neg ha] at h; cases h
  subst ha
  rw [if_pos rfl] at h
  by_cases hg : b1 = true ∨ b2 = true ∨ a3 > 4611686018427387904 ∨ a4 > 4611686018427387904
  · exact fg_great k a0_0 a0_1 a0_2 a0_3 a0_4 A0_5 c0_5 l0_5 a0_6 a0_7 a0_8 a0_9 a1 A2 c2 l2 a3 a4 w hr0_5 hc0_5 hr2 hc2 hM_ b1 b2 ⟨F1⟩ ⟨F2⟩ ⟨FA⟩ hg
  rw [if_neg hg] at h
  obtain rfl : b1 = false := Bool.eq_false_iff.2 (fun h_ => hg (.inl h_))
  obtain rfl : b2 = false := Bool.eq_false_iff.2 (fun h_ => hg (.inr (.inl h_)))
  have hn : decide (4611686018427387904 < a3) = false := decide_eq_false (fun h_ => hg (.inr (.inr (.inl h_))))
  have hl : decide (4611686018427387904 < a4) = false := decide_eq_false (fun h_ => hg (.inr (.inr (.inr h_))))
  clear hg
  obtain ⟨⟨M, H, age, e⟩, FJ, h_⟩ := Option.bind_eq_some_iff.1 h
  clear h
  have h := h_
  clear h_
  try dsimp only at h
  by_cases he : e = 0
  case neg =>
    rw [if_neg he] at h
    by_cases hz : M.length = 0 ∧ H.length = 0
    case neg => rw [if_neg hz] at h; cases h
    exact fg_refused k a0_0 a0_1 a0_2 a0_3 a0_4 A0_5 c0_5 l0_5 a0_6 a0_7 a0_8 a0_9 a1 A2 c2 l2 a3 a4 w hr0_5 hc0_5 hr2 hc2 hM_ ⟨F1⟩ ⟨F2⟩ ⟨FA⟩ hn hl M H age e ⟨FJ⟩ (by simpa using he) (by rw [hz.1]; rfl) (by rw [hz.2]; rfl)
  subst he
  rw [if_pos rfl] at h
  obtain ⟨nd, FN, h_⟩ := Option.bind_eq_some_iff.1 h
  clear h
  have h := h_
  clear h_
  by_cases hd : nd = true
  case neg => rw [if_neg hd] at h; cases h
  subst hd
  rw [if_pos rfl] at h
  by_cases hz : age = 0
  · subst hz
    exact fg_age0 k a0_0 a0_1 a0_2 a0_3 a0_4 A0_5 c0_5 l0_5 a0_6 a0_7 a0_8 a0_9 a1 A2 c2 l2 a3 a4 w hr0_5 hc0_5 hr2 hc2 hM_ ⟨F1⟩ ⟨F2⟩ ⟨FA⟩ hn hl M H ⟨FJ⟩ ⟨FN⟩
  rw [if_neg hz] at h
  obtain ⟨un, FT, h_⟩ := Option.bind_eq_some_iff.1 h
  clear h
  have h := h_
  clear h_
  obtain ⟨⟨c1, d2, c3⟩, FC, h_⟩ := Option.bind_eq_some_iff.1 h
  clear h
  have h := h_
  clear h_
  obtain ⟨⟨n1, n2, n3, n4, n5, n6, n7, n8, n9, n10⟩, FO, h_⟩ := Option.bind_eq_some_iff.1 h
  clear h
  have h := h_
  clear h_
  try dsimp only at h
  unfold mainG at h
  by_cases hq : M.length ≤ 400000 ∧ H.length ≤ 400000 ∧ 0 < age ∧ 0 ≤ a3 ∧ 0 ≤ a4
  case neg => rw [if_neg hq] at h; cases h
  rw [if_pos hq] at h
  obtain ⟨q1, q2, q3, q4, q5⟩ := hq
  obtain ⟨g, hgd⟩ : ∃ g, g = rowH c1 d2 c3 un H (rowM c1 d2 c3 un (msG M n1) []) := ⟨_, rfl⟩
  rw [← hgd] at h
  have ha0 : (age == 0) = false := by simpa using hz
  by_cases hm : 64 < g.length
  · exact fg_many k a0_0 a0_1 a0_2 a0_3 a0_4 A0_5 c0_5 l0_5 a0_6 a0_7 a0_8 a0_9 a1 A2 c2 l2 a3 a4 w hr0_5 hc0_5 hr2 hc2 hM_ ⟨F1⟩ ⟨F2⟩ ⟨FA⟩ hn hl M H age ⟨FJ⟩ ⟨FN⟩ un c1 d2 c3 n1 n2 n3 n4 n5 n6 n7 n8 n9 n10 ⟨⟨q1, q2⟩⟩ ha0 (decide_eq_true q3) ⟨FT⟩ ⟨FC⟩ ⟨FO⟩ g ⟨hgd⟩ (decide_eq_true (by omega))
  rw [if_neg hm] at h
  obtain ⟨names, FM, h_⟩ := Option.bind_eq_some_iff.1 h
  clear h
  have h := h_
  clear h_
  obtain ⟨sf, FS, h_⟩ := Option.bind_eq_some_iff.1 h
  clear h
  have h := h_
  clear h_
  by_cases hx : a3 < un ∧ ((msG M n1).all fun m => !m.toList.isEmpty) = true ∧ (H.all fun m => !m.toList.isEmpty) = true ∧ (names.all fun n => decide (n.size ≤ 9223372036854775807)) = true ∧ names.length ≤ 9223372036854775806 ∧ covC g c1 d2 c3 sf n1 names (IntKind.u64.wrap (a3 + a4)) = decide (a4 < age)
  case neg => rw [if_neg hx] at h; cases h
  obtain ⟨x1, x2, x3, x4, x5, x6⟩ := hx
  have hI : InvG c1 d2 c3 un g := by
    rw [hgd]
    exact InvG.rowH _ x3 _ (InvG.rowM _ x2 _ ⟨by simp, List.Pairwise.nil⟩)
  exact fg_main k a0_0 a0_1 a0_2 a0_3 a0_4 A0_5 c0_5 l0_5 a0_6 a0_7 a0_8 a0_9 a1 A2 c2 l2 a3 a4 w hr0_5 hc0_5 hr2 hc2 hM_ ⟨F1⟩ ⟨F2⟩ ⟨FA⟩ hn hl M H age ⟨FJ⟩ ⟨FN⟩ un c1 d2 c3 n1 n2 n3 n4 n5 n6 n7 n8 n9 n10 ⟨⟨q1, q2⟩⟩ ha0 (decide_eq_true q3) ⟨FT⟩ ⟨FC⟩ ⟨FO⟩ g ⟨hgd⟩ (decide_eq_false (by omega))
    ⟨⟨by omega, hI.at_ x1⟩⟩ names sf (decide (a4 < age)) ⟨FM⟩ ⟨FS⟩ ⟨⟨fun n hn_ => of_decide_eq_true (List.all_eq_true.1 x4 n hn_), x5⟩⟩ rfl ⟨x6⟩ ⟨q4, q5⟩
end Go.Proofs.YtfmajangcbgooaaGreatDoor.Pr
