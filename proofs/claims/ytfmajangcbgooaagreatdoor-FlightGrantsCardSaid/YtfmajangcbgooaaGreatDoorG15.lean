
/- cache.New, Method, Header, Covers over a cache of its own row: walked by hand. -/
import Derived.Test.YtfmajangcbgooaaGreatDoorG14
import Derived.Test.YtfmajangcbgooaaGreatDoorG1
import Derived.Test.YtfmajangcbgooaaGreatDoorPr1
namespace Go.Proofs.YtfmajangcbgooaaGreatDoor.Pr
open Go.RowKit Go.Proofs.YtfmajangcbgooaaGreatDoorW.PrintWords Go.Proofs.YtfmajangcbgooaaGreatDoorW.PrintLast Go.Proofs.YtfmajangcbgooaaGreatDoorW.PrintMore
set_option linter.unusedVariables false
set_option linter.unusedSimpArgs false
set_option maxHeartbeats 16000000
set_option maxRecDepth 100000
theorem newC_calls (w : World) : Calls Tryz.prog 42 #[.int .i64 64] w fun e w' => ∃ g, e = .returned (.pointer (some ⟨g, 0, none⟩)) ∧ w'.heap[g]? = some (.cells #[.slice none 0 0, .int .i64 64] 102 (0, 0)) ∧ w.heap.size ≤ g ∧ Below w.heap.size w w' := by
  have hu102 := Tryz.underlying102
  have HB := Aside0.mk (Below.refl w.heap.size w)
  go_enter Tryz.func42, Tryz.ntmps42
  go_wp2_with (((with_reducible refine gate_dst (N := 7) rfl ?_); refine bxE (N := 7) (cs := #[.slice none 0 0, .int .i64 64]) (t := 102) fun gb hg w1 hbox hb => ?_; obtain ⟨HB', BK, GW⟩ := bx_ bE hg hbox hb; clear HB hb hbox hg; have HB := HB'; clear HB'))
  go_ret
  exact ⟨_, rfl, BK.out, GW.out, HB.out⟩
def hasE (l0 : List S64) (e : S64) (now : Int) : Bool := l0.any fun x => sameE x e && decide (now < x.f3)
def methC (l0 : List S64) (a b : ByteArray) (c : Bool) (m : ByteArray) (now : Int) : Bool := (!m.toList.isEmpty && hasE l0 ⟨⟨a, b, c⟩, m, ⟨#[]⟩, 0⟩ now) || (!c && hasE l0 ⟨⟨a, b, c⟩, ⟨#[42]⟩, ⟨#[]⟩, 0⟩ now)
theorem methC_calls (gc : Nat) (l0 : List S64) (most : Int) (a b : ByteArray) (c : Bool) (m : ByteArray) (now : Int) (base : Nat) (w : World) (hc : IsC w base gc l0 most) (hl : l0.length ≤ 9223372036854775807) :
    Calls Tryz.prog 88 #[.pointer (some ⟨gc, 0, none⟩), .agg #[.string a, .string b, .bool c], .string m, .int .u64 now] w fun e' w' => e' = .returned (.bool (methC l0 a b c m now)) ∧ Below w.heap.size w w' := by
  have hu64 := Tryz.underlying64
  have hu43 := Tryz.underlying43
  have HB := Aside0.mk (Below.refl w.heap.size w)
  have P1 : ∀ W, Below w.heap.size w W → Calls Tryz.prog 135 #[.pointer (some ⟨gc, 0, none⟩), .agg (celE ⟨⟨a, b, c⟩, m, ⟨#[]⟩, 0⟩), .int .u64 now] W fun e' w' => e' = .returned (.bool (hasE l0 ⟨⟨a, b, c⟩, m, ⟨#[]⟩, 0⟩ now)) ∧ Below W.heap.size W w' := fun W hb => has_calls gc l0 most ⟨⟨a, b, c⟩, m, ⟨#[]⟩, 0⟩ now base W (hc.below hb) hl
  have P2 : ∀ W, Below w.heap.size w W → ∀ st : ByteArray, st = ⟨#[42]⟩ → Calls Tryz.prog 135 #[.pointer (some ⟨gc, 0, none⟩), .agg (celE ⟨⟨a, b, c⟩, st, ⟨#[]⟩, 0⟩), .int .u64 now] W fun e' w' => e' = .returned (.bool (hasE l0 ⟨⟨a, b, c⟩, ⟨#[42]⟩, ⟨#[]⟩, 0⟩ now)) ∧ Below W.heap.size W w' := fun W hb st e => by
    subst e
    exact has_calls gc l0 most ⟨⟨a, b, c⟩, ⟨#[42]⟩, ⟨#[]⟩, 0⟩ now base W (hc.below hb) hl
  unfold methC
  generalize hasE l0 ⟨⟨a, b, c⟩, m, ⟨#[]⟩, 0⟩ now = b1 at P1 ⊢
  generalize hasE l0 ⟨⟨a, b, c⟩, ⟨#[42]⟩, ⟨#[]⟩, 0⟩ now = b2 at P2 ⊢
  unfold celE at P1 P2
  dsimp only at P1 P2
  have Q1 := Aside0.mk P1
  have Q2 := Aside0.mk P2
  clear P1 P2 hc
  have hM : (m.toList.isEmpty = true ∧ (m.toList != []) = false) ∨ (m.toList.isEmpty = false ∧ (m.toList != []) = true) := by cases m.toList <;> simp
  rcases hM with ⟨hE, hF⟩ | ⟨hE, hF⟩ <;> cases b1 <;> cases b2 <;> cases c
  all_goals
    go_enter Tryz.func88, Tryz.ntmps88
    go_wp2_with (first | ((with_reducible refine gate_dst (N := 5) rfl ?_); refine bxE (N := 5) (cs := #[.string a, .string b, .bool _]) (t := 43) fun gb hg w1 hbox hb => ?_; obtain ⟨HB', BK, GW⟩ := bx_ bE hg hbox hb; clear HB hb hbox hg; have HB := HB'; clear HB'; obtain ⟨za, zb, zc, zg, zh, zi⟩ := bk3_ BK) | (go_at_call 135; (first | (with_reducible refine (Q1.out _ HB.out).mono ?_) | ((with_reducible refine (Q2.out _ HB.out _ ?_).mono ?_); (first | exact rfl | (rotate_left; exact rfl)))); rintro e' w2 ⟨rfl, hb⟩; replace BK := kM BK hb; replace HB := bS bE hb; clear hb; obtain ⟨ya, yb, yc, yg, yh, yi⟩ := bk3_ BK))
    go_ret
    exact ⟨by simp [hE], bE⟩
def secL : List UInt8 := [97, 117, 116, 104, 111, 114, 105, 122, 97, 116, 105, 111, 110]
def headC (l0 : List S64) (a b : ByteArray) (c : Bool) (nm : ByteArray) (now : Int) : Bool := (!(lowS nm).toList.isEmpty && hasE l0 ⟨⟨a, b, c⟩, ⟨#[]⟩, lowS nm, 0⟩ now) || ((!c && (lowS nm).toList != secL) && hasE l0 ⟨⟨a, b, c⟩, ⟨#[]⟩, ⟨#[42]⟩, 0⟩ now)
theorem headC_calls (gc : Nat) (l0 : List S64) (most : Int) (a b : ByteArray) (c : Bool) (nm : ByteArray) (now : Int) (base : Nat) (w : World) (hc : IsC w base gc l0 most) (hl : l0.length ≤ 9223372036854775807) (hz : nm.size ≤ 9223372036854775807) :
    Calls Tryz.prog 89 #[.pointer (some ⟨gc, 0, none⟩), .agg #[.string a, .string b, .bool c], .string nm, .int .u64 now] w fun e' w' => e' = .returned (.bool (headC l0 a b c nm now)) ∧ Below w.heap.size w w' := by
  have hu64 := Tryz.underlying64
  have hu43 := Tryz.underlying43
  have HB := Aside0.mk (Below.refl w.heap.size w)
  have L1 := Aside0.mk (show octet_Lower.f nm = some (lowS nm) from if_pos hz)
  unfold headC
  generalize lowS nm = m at L1 ⊢
  have P1 : ∀ W, Below w.heap.size w W → Calls Tryz.prog 135 #[.pointer (some ⟨gc, 0, none⟩), .agg (celE ⟨⟨a, b, c⟩, ⟨#[]⟩, m, 0⟩), .int .u64 now] W fun e' w' => e' = .returned (.bool (hasE l0 ⟨⟨a, b, c⟩, ⟨#[]⟩, m, 0⟩ now)) ∧ Below W.heap.size W w' := fun W hb => has_calls gc l0 most ⟨⟨a, b, c⟩, ⟨#[]⟩, m, 0⟩ now base W (hc.below hb) hl
  have P2 : ∀ W, Below w.heap.size w W → ∀ st : ByteArray, st = ⟨#[42]⟩ → Calls Tryz.prog 135 #[.pointer (some ⟨gc, 0, none⟩), .agg (celE ⟨⟨a, b, c⟩, ⟨#[]⟩, st, 0⟩), .int .u64 now] W fun e' w' => e' = .returned (.bool (hasE l0 ⟨⟨a, b, c⟩, ⟨#[]⟩, ⟨#[42]⟩, 0⟩ now)) ∧ Below W.heap.size W w' := fun W hb st e => by
    subst e
    exact has_calls gc l0 most ⟨⟨a, b, c⟩, ⟨#[]⟩, ⟨#[42]⟩, 0⟩ now base W (hc.below hb) hl
  generalize hasE l0 ⟨⟨a, b, c⟩, ⟨#[]⟩, m, 0⟩ now = b1 at P1 ⊢
  generalize hasE l0 ⟨⟨a, b, c⟩, ⟨#[]⟩, ⟨#[42]⟩, 0⟩ now = b2 at P2 ⊢
  unfold celE at P1 P2
  dsimp only at P1 P2
  have Q1 := Aside0.mk P1
  have Q2 := Aside0.mk P2
  clear P1 P2 hc hz
  unfold secL
  have hM : (m.toList.isEmpty = true ∧ (m.toList != []) = false) ∨ (m.toList.isEmpty = false ∧ (m.toList != []) = true) := by cases m.toList <;> simp
  have hS : (m.toList = [97, 117, 116, 104, 111, 114, 105, 122, 97, 116, 105, 111, 110] ∧ Aside0 ((m.toList != [97, 117, 116, 104, 111, 114, 105, 122, 97, 116, 105, 111, 110]) = false)) ∨ (¬ m.toList = [97, 117, 116, 104, 111, 114, 105, 122, 97, 116, 105, 111, 110] ∧ Aside0 ((m.toList != [97, 117, 116, 104, 111, 114, 105, 122, 97, 116, 105, 111, 110]) = true)) := by
    by_cases h : m.toList = [97, 117, 116, 104, 111, 114, 105, 122, 97, 116, 105, 111, 110]
    · exact .inl ⟨h, ⟨by rw [h]; rfl⟩⟩
    · exact .inr ⟨h, ⟨by simpa using h⟩⟩
  have hMS : (m.toList.isEmpty = true ∧ (m.toList != []) = false ∧ Aside0 (m.toList.isEmpty = true)) ∨ (m.toList.isEmpty = false ∧ (m.toList != []) = true ∧ Aside0 (m.toList.isEmpty = false)) := hM.imp (fun h => ⟨h.1, h.2, ⟨h.1⟩⟩) (fun h => ⟨h.1, h.2, ⟨h.1⟩⟩)
  rcases hMS with ⟨hE, hF, hH⟩ | ⟨hE, hF, hH⟩ <;> rcases hS with ⟨hS, hG⟩ | ⟨hS, hG⟩ <;> cases b1 <;> cases b2 <;> cases c <;> first | (exfalso; rw [hS] at hE; exact absurd hE (by decide)) | skip
  all_goals
    clear hM
    go_enter Tryz.func89, Tryz.ntmps89
    go_wp2_with (first | ((with_reducible refine gate_dst (N := 5) rfl ?_); refine bxE (N := 5) (cs := #[.string a, .string b, .bool _]) (t := 43) fun gb hg w1 hbox hb => ?_; obtain ⟨HB', BK, GW⟩ := bx_ bE hg hbox hb; clear HB hb hbox hg; have HB := HB'; clear HB'; obtain ⟨za, zb, zc, zg, zh, zi⟩ := bk3_ BK) | (go_at_call 95; refine (octet_Lower.calls _ _ _ L1.out).mono ?_; rintro e' w2 ⟨rfl, hb⟩; replace BK := kM BK hb; replace HB := bS bE hb; clear hb; obtain ⟨xa, xb, xc, xg, xh, xi⟩ := bk3_ BK) | (go_at_call 135; (first | (with_reducible refine (Q1.out _ HB.out).mono ?_) | ((with_reducible refine (Q2.out _ HB.out _ ?_).mono ?_); (first | exact rfl | (rotate_left; exact rfl)))); rintro e' w2 ⟨rfl, hb⟩; replace BK := kM BK hb; replace HB := bS bE hb; clear hb; obtain ⟨ya, yb, yc, yg, yh, yi⟩ := bk3_ BK))
    go_ret
    exact ⟨by first | (rw [hH.out, hG.out]; rfl) | (rw [hH.out, hG.out]; simp [hS]), bE⟩
end Go.Proofs.YtfmajangcbgooaaGreatDoor.Pr
