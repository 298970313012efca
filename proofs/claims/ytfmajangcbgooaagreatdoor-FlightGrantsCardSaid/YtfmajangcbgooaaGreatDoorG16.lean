
/- cache.Covers over a cache of its own row: walked by hand. -/
import Derived.Test.YtfmajangcbgooaaGreatDoorG15
import Derived.Test.YtfmajangcbgooaaGreatDoorPr1
namespace Go.Proofs.YtfmajangcbgooaaGreatDoor.Pr
open Go.RowKit Go.Proofs.YtfmajangcbgooaaGreatDoorW.PrintWords Go.Proofs.YtfmajangcbgooaaGreatDoorW.PrintLast Go.Proofs.YtfmajangcbgooaaGreatDoorW.PrintMore
set_option linter.unusedVariables false
set_option linter.unusedSimpArgs false
set_option maxHeartbeats 16000000
set_option maxRecDepth 100000
def covC (l0 : List S64) (a b : ByteArray) (c s : Bool) (m : ByteArray) (names : List ByteArray) (now : Int) : Bool := (s || methC l0 a b c m now) && names.all fun n => headC l0 a b c n now
theorem covC_calls (k gc : Nat) (l0 : List S64) (most : Int) (a b : ByteArray) (c s : Bool) (m : ByteArray) (A0 : Option Addr) (c0 : Nat) (names : List ByteArray) (now : Int) (base : Nat) (w : World) (hc : IsC w base gc l0 most) (hl : l0.length ≤ 9223372036854775807) (hs : method_Safe.f k m = some s)
    (hr0 : Kd.C Kd.string w A0 names.length names) (hz : ∀ n ∈ names, n.size ≤ 9223372036854775807) (hn : names.length ≤ 9223372036854775806) :
    Calls Tryz.prog 44 #[.pointer (some ⟨gc, 0, none⟩), .agg #[.string a, .string b, .bool c], .string m, .slice A0 names.length c0, .int .u64 now] w fun e' w' => e' = .returned (.bool (covC l0 a b c s m names now)) ∧ Below w.heap.size w w' := by
  have hu43 := Tryz.underlying43
  have HB := Aside0.mk (Below.refl w.heap.size w)
  have HS := Aside0.mk hs
  have HR := Aside0.mk hr0
  have HC := Aside0.mk hc
  have HZ := Aside0.mk hz
  have P1 := Aside0.mk fun (W : World) (hb : Below w.heap.size w W) => methC_calls gc l0 most a b c m now base W (hc.below hb) hl
  have P2 := Aside0.mk fun (W : World) (hb : Below w.heap.size w W) (n : ByteArray) (h : n.size ≤ 9223372036854775807) => headC_calls gc l0 most a b c n now base W (hc.below hb) hl h
  clear hs hr0 hc hz
  unfold covC
  generalize methC l0 a b c m now = b1 at P1 ⊢
  by_cases hP : (s || b1) = true
  · rw [hP, Bool.true_and]
    cases s <;> cases b1 <;> first | exact absurd hP (by decide) | skip
    all_goals
      clear hP
      go_enter Tryz.func44, Tryz.ntmps44
      go_wp2_with (first | ((with_reducible refine gate_dst (N := 6) rfl ?_); refine bxE (N := 6) (cs := #[.string a, .string b, .bool c]) (t := 43) fun gb hg w1 hbox hb => ?_; obtain ⟨HB', BK, GW⟩ := bx_ bE hg hbox hb; clear HB hb hbox hg; have HB := HB'; clear HB'; obtain ⟨za, zb, zc, zg, zh, zi⟩ := bk3_ BK) | (go_at_call 38; (with_reducible refine (method_Safe.calls _ _ _ _ HS.out).mono ?_); rintro e' w2 ⟨rfl, hb⟩; replace BK := kM BK hb; replace HB := bS bE hb; clear hb; obtain ⟨xa, xb, xc, xg, xh, xi⟩ := bk3_ BK) | (go_at_call 88; (with_reducible refine (P1.out _ HB.out).mono ?_); rintro e' w3 ⟨rfl, hb⟩; replace BK := kM BK hb; replace HB := bS bE hb; clear hb; obtain ⟨ya, yb, yc, yg, yh, yi⟩ := bk3_ BK))
      go_loopg [12, 30] names.length (fun gg _ s30 wr => ∃ i : Nat, i ≤ names.length ∧ names.length - i ≤ gg ∧ s30 = .int .i64 i ∧ Aside0 ((names.all fun n => headC l0 a b c n now) = ((names.drop i).all fun n => headC l0 a b c n now)) ∧ Aside0 (wr.heap[gb]? = some (.cells #[.string a, .string b, .bool c] 43 (0, 0))) ∧ Aside0 (Below w.heap.size w wr))
      case atStart => exact ⟨0, Nat.zero_le _, by omega, rfl, ⟨by rw [List.drop_zero]⟩, ⟨kC BK⟩, ⟨bE⟩⟩
      case round =>
        clear HB BK
        obtain ⟨i, hi, hg, rfl, HE, BK, HB⟩ := hrel
        by_cases hlt : i < names.length
        · have hE := HE.out
          rw [List.drop_eq_getElem_cons hlt, List.all_cons] at hE
          obtain ⟨ad, e0, q0⟩ := Kd.at_string (Kd.C_below HR.out HB.out) (i : Int) (by omega) (by omega)
          have hy : rdOf ByteArray.empty names (i : Int) = names[i] := by simp [rdOf, List.getD_eq_getElem?_getD, List.getElem?_eq_getElem hlt]
          rw [hy] at q0
          have hcall := P2.out wr HB.out names[i] (HZ.out _ (List.getElem_mem hlt))
          generalize headC l0 a b c names[i] now = r at hE hcall
          generalize names[i] = y at q0 hcall
          clear HE hy
          have HE := Aside0.mk hE
          have HQ := Aside0.mk hcall
          clear hE hcall
          cases e0
          rw [Int.toNat_natCast] at q0
          have c5 : decide ((i : Int) < (names.length : Int)) = true := decide_eq_true (by omega)
          have c6 : (0 : Int) ≤ (i : Int) := by omega
          have c7 : (i : Int) < (names.length : Int) := by omega
          obtain ⟨ja, jb, jc, jg, jh, ji⟩ := bk3_ BK
          cases r with
          | true =>
            go_wp2_with (go_at_call 89; (with_reducible refine HQ.out.mono ?_); rintro e' w5 ⟨rfl, hb⟩; replace BK := kM BK hb; replace HB := bS bE hb; clear hb)
            go_roundg (names.length - (i + 1))
            case measure => omega
            case rel => exact ⟨i + 1, by omega, by omega, by go_num, ⟨by rw [HE.out, Bool.true_and]⟩, ⟨kC BK⟩, ⟨bE⟩⟩
          | false =>
            go_wp2_with (go_at_call 89; (with_reducible refine HQ.out.mono ?_); rintro e' w5 ⟨rfl, hb⟩; replace BK := kM BK hb; replace HB := bS bE hb; clear hb)
            go_ret
            exact ⟨by rw [HE.out]; rfl, bE⟩
        · have c5 : decide ((i : Int) < (names.length : Int)) = false := decide_eq_false (by omega)
          have hE := HE.out
          rw [List.drop_of_length_le (by omega)] at hE
          have HE := Aside0.mk hE
          clear hE
          go_wp2
          go_ret
          exact ⟨by rw [HE.out]; rfl, bE⟩
  · have hs0 : s = false := by cases s <;> simp_all
    have hb0 : b1 = false := by cases b1 <;> simp_all
    subst hs0 hb0
    clear hP
    go_enter Tryz.func44, Tryz.ntmps44
    go_wp2_with (first | ((with_reducible refine gate_dst (N := 6) rfl ?_); refine bxE (N := 6) (cs := #[.string a, .string b, .bool c]) (t := 43) fun gb hg w1 hbox hb => ?_; obtain ⟨HB', BK, GW⟩ := bx_ bE hg hbox hb; clear HB hb hbox hg; have HB := HB'; clear HB'; obtain ⟨za, zb, zc, zg, zh, zi⟩ := bk3_ BK) | (go_at_call 38; (with_reducible refine (method_Safe.calls _ _ _ _ HS.out).mono ?_); rintro e' w2 ⟨rfl, hb⟩; replace BK := kM BK hb; replace HB := bS bE hb; clear hb; obtain ⟨xa, xb, xc, xg, xh, xi⟩ := bk3_ BK) | (go_at_call 88; (with_reducible refine (P1.out _ HB.out).mono ?_); rintro e' w3 ⟨rfl, hb⟩; replace BK := kM BK hb; replace HB := bS bE hb; clear hb; obtain ⟨ya, yb, yc, yg, yh, yi⟩ := bk3_ BK))
    go_ret
    exact ⟨rfl, bE⟩
end Go.Proofs.YtfmajangcbgooaaGreatDoor.Pr
