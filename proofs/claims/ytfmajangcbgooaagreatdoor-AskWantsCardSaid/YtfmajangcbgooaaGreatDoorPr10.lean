import Derived.Test.YtfmajangcbgooaaGreatDoorPr0
import Derived.Test.YtfmajangcbgooaaGreatDoorK0
import Derived.Test.YtfmajangcbgooaaGreatDoorPr3
import Derived.Test.YtfmajangcbgooaaGreatDoorPr4
import Derived.Test.YtfmajangcbgooaaGreatDoorPr1
import Derived.Test.YtfmajangcbgooaaGreatDoorPr9
import Derived.Test.YtfmajangcbgooaaGreatDoorG1
import Derived.Test.YtfmajangcbgooaaGreatDoorG5
namespace Go.Proofs.YtfmajangcbgooaaGreatDoor.Pr
open Go.RowKit Go.Proofs.YtfmajangcbgooaaGreatDoorW.PrintWords Go.Proofs.YtfmajangcbgooaaGreatDoorW.PrintLast Go.Proofs.YtfmajangcbgooaaGreatDoorW.PrintMore
attribute [local go_sem] max2_int min2_int max_two min_two max_three min_three max_four min_four
set_option linter.unusedVariables false
set_option maxHeartbeats 64000000
set_option maxRecDepth 100000
set_option linter.unusedSimpArgs false
theorem drawn_then {w a b : World} (h : Drawn0 w a) (k : Drawn0 a b) : Drawn0 w b := by
 obtain ⟨n, rfl⟩ := k
 exact h.step n
theorem allByte_total (c : Int) : safe_Byte.f c = some ((safe_Byte.f c).getD false) := by
 unfold safe_Byte.f strings_IndexByte.f
 simp only [Option.bind_some]
 repeat' split
 all_goals rfl
def allByte (s : ByteArray) : Bool := (bytesOf s).all fun c => (safe_Byte.f c).getD false
theorem allByte_at (s : ByteArray) (k : Nat) (h : k < s.size) : ((bytesOf s).drop k).all (fun c => (safe_Byte.f c).getD false) = ((safe_Byte.f (bt s k)).getD false && ((bytesOf s).drop (k + 1)).all fun c => (safe_Byte.f c).getD false) := by
 have h' : k < (bytesOf s).length := by rw [bytesOf_length]; exact h
 rw [List.drop_eq_getElem_cons h', List.all_cons]
 have hb : bt s k = (bytesOf s)[k] := by
  rw [← rd_bytesOf]
  simp [rd, List.getD_eq_getElem?_getD, h']
 rw [hb]
theorem allByte_calls (a : ByteArray) (w : World) (hs : a.size ≤ 9223372036854775806) :
  Calls Tryz.prog 159 #[.string a, .func (.func 160) #[] #[]] w fun e w' => e = .returned (.bool (allByte a)) ∧ Drawn0 w w' := by
 go_enter Tryz.func159, Tryz.ntmps159
 go_wp2
 go_loopw [8] (fun b wr => ∃ k : Nat, k ≤ a.size ∧ b = .int .i64 k ∧ Aside0 (allByte a = ((bytesOf a).drop k).all fun c => (safe_Byte.f c).getD false) ∧ Aside0 (Drawn0 w wr)) (fun b _ => a.size - (intOf b).toNat)
 case atStart => exact ⟨0, Nat.zero_le _, rfl, ⟨by rw [List.drop_zero]; rfl⟩, ⟨Drawn0.refl _⟩⟩
 case round =>
  obtain ⟨k, hk, rfl, HE, HD⟩ := hrel
  by_cases hlt : k < a.size
  ·have hne := allByte_at a k hlt
   have g : 0 ≤ (k : Int) := by omega
   have i : (k : Int) < (a.size : Int) := by omega
   have hbt : bt a (k : Int) = ((a[k]'hlt).toNat : Int) := by
    unfold bt
    rw [dif_pos (by simpa using hlt)]
    simp
   cases hb : (safe_Byte.f (bt a k)).getD false with
   | true =>
    rw [hb, Bool.true_and] at hne
    have HN := Aside0.mk hne
    have HT := Aside0.mk ((congrArg safe_Byte.f hbt).symm.trans ((allByte_total (bt a k)).trans (congrArg some hb)))
    clear hne hb
    go_wp2_with (go_at_call 160; refine (safe_Byte.calls _ true _ HT.out).mono ?_; rintro e d ⟨rfl, hd⟩; have HD2 := Aside0.mk hd; clear hd)
    exact ⟨⟨k + 1, by omega, by go_num, ⟨HE.out.trans HN.out⟩, ⟨drawn_then HD.out HD2.out⟩⟩, by simp [intOf]; omega⟩
   | false =>
    rw [hb, Bool.false_and] at hne
    have HN := Aside0.mk hne
    have HT := Aside0.mk ((congrArg safe_Byte.f hbt).symm.trans ((allByte_total (bt a k)).trans (congrArg some hb)))
    clear hne hb
    go_wp2_with (go_at_call 160; refine (safe_Byte.calls _ false _ HT.out).mono ?_; rintro e d ⟨rfl, hd⟩; have HD2 := Aside0.mk hd; clear hd)
    go_ret
    exact ⟨by rw [HE.out, HN.out]; rfl, drawn_then HD.out HD2.out⟩
  ·have e : k = a.size := by omega
   have hz : ((bytesOf a).drop k).all (fun c => (safe_Byte.f c).getD false) = true := by
    rw [List.drop_eq_nil_of_le (by rw [bytesOf_length]; omega)]
    rfl
   have HN := Aside0.mk hz
   clear hz
   go_wp2
   go_ret
   exact ⟨by rw [HE.out, HN.out]; rfl, HD.out⟩
theorem allWord_total (c : Int) : safe_word.f c = some ((safe_word.f c).getD false) := by
 unfold safe_word.f strings_IndexByte.f
 simp only [Option.bind_some]
 repeat' split
 all_goals rfl
def allWord (s : ByteArray) : Bool := (bytesOf s).all fun c => (safe_word.f c).getD false
theorem allWord_at (s : ByteArray) (k : Nat) (h : k < s.size) : ((bytesOf s).drop k).all (fun c => (safe_word.f c).getD false) = ((safe_word.f (bt s k)).getD false && ((bytesOf s).drop (k + 1)).all fun c => (safe_word.f c).getD false) := by
 have h' : k < (bytesOf s).length := by rw [bytesOf_length]; exact h
 rw [List.drop_eq_getElem_cons h', List.all_cons]
 have hb : bt s k = (bytesOf s)[k] := by
  rw [← rd_bytesOf]
  simp [rd, List.getD_eq_getElem?_getD, h']
 rw [hb]
theorem allWord_calls (a : ByteArray) (w : World) (hs : a.size ≤ 9223372036854775806) :
  Calls Tryz.prog 159 #[.string a, .func (.func 161) #[] #[]] w fun e w' => e = .returned (.bool (allWord a)) ∧ Drawn0 w w' := by
 go_enter Tryz.func159, Tryz.ntmps159
 go_wp2
 go_loopw [8] (fun b wr => ∃ k : Nat, k ≤ a.size ∧ b = .int .i64 k ∧ Aside0 (allWord a = ((bytesOf a).drop k).all fun c => (safe_word.f c).getD false) ∧ Aside0 (Drawn0 w wr)) (fun b _ => a.size - (intOf b).toNat)
 case atStart => exact ⟨0, Nat.zero_le _, rfl, ⟨by rw [List.drop_zero]; rfl⟩, ⟨Drawn0.refl _⟩⟩
 case round =>
  obtain ⟨k, hk, rfl, HE, HD⟩ := hrel
  by_cases hlt : k < a.size
  ·have hne := allWord_at a k hlt
   have g : 0 ≤ (k : Int) := by omega
   have i : (k : Int) < (a.size : Int) := by omega
   have hbt : bt a (k : Int) = ((a[k]'hlt).toNat : Int) := by
    unfold bt
    rw [dif_pos (by simpa using hlt)]
    simp
   cases hb : (safe_word.f (bt a k)).getD false with
   | true =>
    rw [hb, Bool.true_and] at hne
    have HN := Aside0.mk hne
    have HT := Aside0.mk ((congrArg safe_word.f hbt).symm.trans ((allWord_total (bt a k)).trans (congrArg some hb)))
    clear hne hb
    go_wp2_with (go_at_call 161; refine (safe_word.calls _ true _ HT.out).mono ?_; rintro e d ⟨rfl, hd⟩; have HD2 := Aside0.mk hd; clear hd)
    exact ⟨⟨k + 1, by omega, by go_num, ⟨HE.out.trans HN.out⟩, ⟨drawn_then HD.out HD2.out⟩⟩, by simp [intOf]; omega⟩
   | false =>
    rw [hb, Bool.false_and] at hne
    have HN := Aside0.mk hne
    have HT := Aside0.mk ((congrArg safe_word.f hbt).symm.trans ((allWord_total (bt a k)).trans (congrArg some hb)))
    clear hne hb
    go_wp2_with (go_at_call 161; refine (safe_word.calls _ false _ HT.out).mono ?_; rintro e d ⟨rfl, hd⟩; have HD2 := Aside0.mk hd; clear hd)
    go_ret
    exact ⟨by rw [HE.out, HN.out]; rfl, drawn_then HD.out HD2.out⟩
  ·have e : k = a.size := by omega
   have hz : ((bytesOf a).drop k).all (fun c => (safe_word.f c).getD false) = true := by
    rw [List.drop_eq_nil_of_le (by rw [bytesOf_length]; omega)]
    rfl
   have HN := Aside0.mk hz
   clear hz
   go_wp2
   go_ret
   exact ⟨by rw [HE.out, HN.out]; rfl, HD.out⟩
def safe_all.f (a : ByteArray) (b : Nat) : Option Bool := if a.size ≤ 9223372036854775806 then (if b = 160 then some (allByte a) else if b = 161 then some (allWord a) else none) else none
theorem safe_all.calls (a : ByteArray) (b : Nat) (r : Bool) (w : World) (h : safe_all.f a b = some r) :
  Calls Tryz.prog 159 #[.string a, .func (.func b) #[] #[]] w fun e w' => e = .returned (.bool r) ∧ Drawn0 w w' := by
 unfold safe_all.f at h
 split at h
 case isFalse => cases h
 rename_i hs
 split at h
 ·rename_i h1
  subst h1; obtain rfl := Option.some.inj h; exact allByte_calls a w hs
 ·split at h
  ·rename_i h1
   subst h1; obtain rfl := Option.some.inj h; exact allWord_calls a w hs
  ·cases h
def safe_Essence.f (k : Nat) (i : ByteArray) : Option (ByteArray × Bool) := (strings_Cut.f i (⟨#[59]⟩ : ByteArray)).bind fun c => ((octet_Trim.f k c.1).bind fun b => ((strings_Cut.f b (⟨#[47]⟩ : ByteArray)).bind fun a => (if a.2.2 = true then ((octet_Token.f k a.1).bind fun d => (if d = true then ((octet_Token.f k a.2.1).bind fun e => (if e = true then ((octet_Lower.f b).bind fun g => (some (g, true))) else (some ((⟨#[]⟩ : ByteArray), false)))) else (some ((⟨#[]⟩ : ByteArray), false)))) else (some ((⟨#[]⟩ : ByteArray), false)))))
theorem safe_Essence.mono : ∀ a k, LeO (safe_Essence.f k a) (safe_Essence.f (k + 1) a) := by
 intro a k
 have b := @octet_Token.mono; have c := @octet_Trim.mono; unfold safe_Essence.f
 exact moE
theorem safe_Essence.calls (k : Nat) (l c : ByteArray) (d : Bool) (w : World) (hM_ : Aside0 (LaidW w)) (h : safe_Essence.f k l = some (c, d)) :
  Calls Tryz.prog 187 #[.string l] w fun e w' => e = .returned (.tuple #[.string c, .bool d]) ∧ Below w.heap.size w w' := by
 have HB := Aside0.mk (Below.refl w.heap.size w); have H := h; clear h; unfold safe_Essence.f at H; replace H := bd_ H; obtain ⟨⟨m, u, D⟩, v, H⟩ := H; replace H : ((octet_Trim.f k m).bind fun b => ((strings_Cut.f b (⟨#[47]⟩ : ByteArray)).bind fun a => (if a.2.2 = true then ((octet_Token.f k a.1).bind fun g => (if g = true then ((octet_Token.f k a.2.1).bind fun i => (if i = true then ((octet_Lower.f b).bind fun j => (some (j, true))) else (some ((⟨#[]⟩ : ByteArray), false)))) else (some ((⟨#[]⟩ : ByteArray), false)))) else (some ((⟨#[]⟩ : ByteArray), false))))) = some (c, d) := H; replace H := bd_ H; obtain ⟨b, x, H⟩ := H; replace H := bd_ H; obtain ⟨⟨n, o, p⟩, y, H⟩ := H; replace H : (if p = true then ((octet_Token.f k n).bind fun g => (if g = true then ((octet_Token.f k o).bind fun i => (if i = true then ((octet_Lower.f b).bind fun j => (some (j, true))) else (some ((⟨#[]⟩ : ByteArray), false)))) else (some ((⟨#[]⟩ : ByteArray), false)))) else (some ((⟨#[]⟩ : ByteArray), false))) = some (c, d) := H; revert H; refine iteB_ (fun q H => ?g1p) (fun q H => ?g1n)
 case' g1p =>
  subst q; replace H := bd_ H; obtain ⟨g, z, H⟩ := H; revert H; refine iteB_ (fun r H => ?g2p) (fun r H => ?g2n)
  case' g2p =>
   subst r; replace H := bd_ H; obtain ⟨i, A, H⟩ := H; revert H; refine iteB_ (fun s H => ?g3p) (fun s H => ?g3n)
   case' g3p =>
    subst s; replace H := bd_ H; obtain ⟨j, B, H⟩ := H
    simp only [Option.some.injEq, Prod.mk.injEq] at H
    obtain ⟨rfl, rfl⟩ := H
   case' g3n =>
    subst s
    simp only [Option.some.injEq, Prod.mk.injEq] at H
    obtain ⟨rfl, rfl⟩ := H
  case' g2n =>
   subst r
   simp only [Option.some.injEq, Prod.mk.injEq] at H
   obtain ⟨rfl, rfl⟩ := H
 case' g1n =>
  subst q
  simp only [Option.some.injEq, Prod.mk.injEq] at H
  obtain ⟨rfl, rfl⟩ := H
 all_goals
  go_enter Tryz.func187, Tryz.ntmps187; go_wp2_with (first | ((with_reducible refine gate_callee (f := 90) rfl ?_); refine gL _ Tryz.func90 _ ((strings_Cut.calls l (⟨#[59]⟩ : ByteArray) m u _ _ ?side1 v.out).mono ?_); (case side1 => exact ⟨lE⟩); rintro e w' ⟨rfl, ⟨nd, rfl⟩⟩; refine ⟨_, rfl, ?_⟩) | ((with_reducible refine gate_callee (f := 77) rfl ?_); refine gL _ Tryz.func77 _ ((octet_Trim.calls k m _ _ x.out).mono ?_); rintro e w' ⟨rfl, ⟨nd, rfl⟩⟩; refine ⟨_, rfl, ?_⟩) | ((with_reducible refine gate_callee (f := 90) rfl ?_); refine gL _ Tryz.func90 _ ((strings_Cut.calls b (⟨#[47]⟩ : ByteArray) n o _ _ ?side1 y.out).mono ?_); (case side1 => exact ⟨lE⟩); rintro e w' ⟨rfl, ⟨nd, rfl⟩⟩; refine ⟨_, rfl, ?_⟩) | (go_at_call 146; (with_reducible refine (octet_Token.calls k n _ _ z.out).mono ?_); rintro e w' ⟨rfl, ⟨nd, rfl⟩⟩) | (go_at_call 146; (with_reducible refine (octet_Token.calls k o _ _ A.out).mono ?_); rintro e w' ⟨rfl, ⟨nd, rfl⟩⟩) | ((with_reducible refine gate_callee (f := 95) rfl ?_); refine gL _ Tryz.func95 _ ((octet_Lower.calls b _ _ B.out).mono ?_); rintro e t ⟨rfl, hb⟩; refine ⟨_, rfl, ?_⟩; replace HB := bS bE hb; (try clear hb))); go_ret2; exact ⟨rE, bE⟩
def safe_isForm.f (k : Nat) (b : ByteArray) : Option (Bool) := (safe_Essence.f k b).bind fun a => (if a.1.toList = ([97, 112, 112, 108, 105, 99, 97, 116, 105, 111, 110, 47, 120, 45, 119, 119, 119, 45, 102, 111, 114, 109, 45, 117, 114, 108, 101, 110, 99, 111, 100, 101, 100] : List UInt8) then (some true) else (if a.1.toList = ([109, 117, 108, 116, 105, 112, 97, 114, 116, 47, 102, 111, 114, 109, 45, 100, 97, 116, 97] : List UInt8) then (some true) else (some (a.1.toList == ([116, 101, 120, 116, 47, 112, 108, 97, 105, 110] : List UInt8)))))
theorem safe_isForm.mono : ∀ a k, LeO (safe_isForm.f k a) (safe_isForm.f (k + 1) a) := by
 intro a k
 have b := @safe_Essence.mono; unfold safe_isForm.f
 exact moE
theorem safe_isForm.calls (k : Nat) (i : ByteArray) (r : Bool) (w : World) (hM_ : Aside0 (LaidW w)) (h : safe_isForm.f k i = some r) :
  Calls Tryz.prog 162 #[.string i] w fun e w' => e = .returned (.bool r) ∧ Below w.heap.size w w' := by
 have HB := Aside0.mk (Below.refl w.heap.size w); have H := h; clear h; unfold safe_isForm.f at H; replace H := bd_ H; obtain ⟨⟨g, m⟩, l, H⟩ := H; replace H : (if g.toList = ([97, 112, 112, 108, 105, 99, 97, 116, 105, 111, 110, 47, 120, 45, 119, 119, 119, 45, 102, 111, 114, 109, 45, 117, 114, 108, 101, 110, 99, 111, 100, 101, 100] : List UInt8) then (some true) else (if g.toList = ([109, 117, 108, 116, 105, 112, 97, 114, 116, 47, 102, 111, 114, 109, 45, 100, 97, 116, 97] : List UInt8) then (some true) else (some (g.toList == ([116, 101, 120, 116, 47, 112, 108, 97, 105, 110] : List UInt8))))) = some r := H; revert H; refine iteEF_ (fun a b H => ?g1p) (fun n a b H => ?g1n)
 case' g1p =>
  obtain rfl := si_ H
 case' g1n =>
  revert H; refine iteEF_ (fun c d H => ?g2p) (fun o c d H => ?g2n)
  case' g2p =>
   obtain rfl := si_ H
  case' g2n =>
   obtain rfl := si_ H
 all_goals
  go_enter Tryz.func162, Tryz.ntmps162; go_wp2_with (first | ((with_reducible refine gate_callee (f := 187) rfl ?_); refine gL _ Tryz.func187 _ ((safe_Essence.calls k i g _ _ ?side1 l.out).mono ?_); (case side1 => exact ⟨lE⟩); rintro e j ⟨rfl, hb⟩; refine ⟨_, rfl, ?_⟩; replace HB := bS bE hb; (try clear hb))); go_ret; exact ⟨rE, bE⟩
def stringslite_CutPrefix.f (a c : ByteArray) : Option (ByteArray × Bool) := (stringslite_HasPrefix.f a c).bind fun b => (if b = true then (if 0 ≤ (c.size : Int) then (if (c.size : Int) ≤ (a.size : Int) then (some (a.extract ((c.size : Int) : Int).toNat a.size, true)) else (none)) else (none)) else (some (a, false)))
theorem stringslite_CutPrefix.calls (a b d : ByteArray) (g : Bool) (w : World) (h : stringslite_CutPrefix.f a b = some (d, g)) :
  Calls Tryz.prog 208 #[.string a, .string b] w fun e w' => e = .returned (.tuple #[.string d, .bool g]) ∧ Drawn0 w w' := by
 have H := h; clear h; unfold stringslite_CutPrefix.f at H; replace H := bd_ H; obtain ⟨o, n, H⟩ := H; revert H; refine iteB_ (fun c H => ?g1p) (fun c H => ?g1n)
 case' g1p =>
  subst c; revert H; refine iteNT_ fun i j => iteNT_ fun l m H => ?_
  simp only [Option.some.injEq, Prod.mk.injEq] at H
  obtain ⟨rfl, rfl⟩ := H
 case' g1n =>
  subst c
  simp only [Option.some.injEq, Prod.mk.injEq] at H
  obtain ⟨rfl, rfl⟩ := H
 all_goals
  go_enter Tryz.func208, Tryz.ntmps208; go_wp2_with (first | ((with_reducible refine gate_callee (f := 186) rfl ?_); refine gL _ Tryz.func186 _ ((stringslite_HasPrefix.calls a b _ _ n.out).mono ?_); rintro e w' ⟨rfl, ⟨nd, rfl⟩⟩; refine ⟨_, rfl, ?_⟩)); go_ret2; exact ⟨rS, dE⟩
def strings_CutPrefix.f (b c : ByteArray) : Option (ByteArray × Bool) := (stringslite_CutPrefix.f b c).bind fun a => (some (a.1, a.2))
theorem strings_CutPrefix.calls (a b c : ByteArray) (d : Bool) (w : World) (h : strings_CutPrefix.f a b = some (c, d)) :
  Calls Tryz.prog 188 #[.string a, .string b] w fun e w' => e = .returned (.tuple #[.string c, .bool d]) ∧ Drawn0 w w' := by
 have H := h; clear h; unfold strings_CutPrefix.f at H; replace H := bd_ H; obtain ⟨⟨g, i⟩, j, H⟩ := H; replace H : (some (g, i)) = some (c, d) := H
 simp only [Option.some.injEq, Prod.mk.injEq] at H
 obtain ⟨rfl, rfl⟩ := H; go_enter Tryz.func188, Tryz.ntmps188; go_wp2_with (first | ((with_reducible refine gate_callee (f := 208) rfl ?_); refine gL _ Tryz.func208 _ ((stringslite_CutPrefix.calls a b g i _ j.out).mono ?_); rintro e w' ⟨rfl, ⟨nd, rfl⟩⟩; refine ⟨_, rfl, ?_⟩)); go_ret2; exact ⟨rS, dE⟩
def safe_Range.f (k : Nat) (e : ByteArray) : Option (Bool) := (strings_CutPrefix.f e (⟨#[98, 121, 116, 101, 115, 61]⟩ : ByteArray)).bind fun b => ((strings_Cut.f b.1 (⟨#[45]⟩ : ByteArray)).bind fun a => ((octet_Digits.f k a.1).bind fun c => (if b.2 = true then (if a.2.2 = true then (if c.2 = true then ((octet_Digits.f k a.2.1).bind fun d => (if a.2.1.toList = ([] : List UInt8) then (some true) else (if d.2 = true then (some (decide (d.1 ≥ c.1))) else (some false)))) else (some false)) else (some false)) else (some false))))
theorem safe_Range.mono : ∀ a k, LeO (safe_Range.f k a) (safe_Range.f (k + 1) a) := by
 intro a k
 have b := @octet_Digits.mono; unfold safe_Range.f
 exact moE
theorem safe_Range.calls (k : Nat) (j : ByteArray) (r : Bool) (w : World) (hM_ : Aside0 (LaidW w)) (h : safe_Range.f k j = some r) :
  Calls Tryz.prog 163 #[.string j] w fun e w' => e = .returned (.bool r) ∧ Drawn0 w w' := by
 have H := h; clear h; unfold safe_Range.f at H; replace H := bd_ H; obtain ⟨⟨l, m⟩, x, H⟩ := H; replace H : ((strings_Cut.f l (⟨#[45]⟩ : ByteArray)).bind fun c => ((octet_Digits.f k c.1).bind fun b => (if m = true then (if c.2.2 = true then (if b.2 = true then ((octet_Digits.f k c.2.1).bind fun a => (if c.2.1.toList = ([] : List UInt8) then (some true) else (if a.2 = true then (some (decide (a.1 ≥ b.1))) else (some false)))) else (some false)) else (some false)) else (some false)))) = some r := H; replace H := bd_ H; obtain ⟨⟨n, d, u⟩, y, H⟩ := H; replace H : ((octet_Digits.f k n).bind fun b => (if m = true then (if u = true then (if b.2 = true then ((octet_Digits.f k d).bind fun a => (if d.toList = ([] : List UInt8) then (some true) else (if a.2 = true then (some (decide (a.1 ≥ b.1))) else (some false)))) else (some false)) else (some false)) else (some false))) = some r := H; replace H := bd_ H; obtain ⟨⟨o, z⟩, A, H⟩ := H; replace H : (if m = true then (if u = true then (if z = true then ((octet_Digits.f k d).bind fun a => (if d.toList = ([] : List UInt8) then (some true) else (if a.2 = true then (some (decide (a.1 ≥ o))) else (some false)))) else (some false)) else (some false)) else (some false)) = some r := H; revert H; refine iteB_ (fun p H => ?g1p) (fun p H => ?g1n)
 case' g1p =>
  subst p; revert H; refine iteB_ (fun q H => ?g2p) (fun q H => ?g2n)
  case' g2p =>
   subst q; revert H; refine iteB_ (fun s H => ?g3p) (fun s H => ?g3n)
   case' g3p =>
    subst s; replace H := bd_ H; obtain ⟨⟨v, B⟩, D, H⟩ := H; replace H : (if d.toList = ([] : List UInt8) then (some true) else (if B = true then (some (decide (v ≥ o))) else (some false))) = some r := H; revert H; refine iteEF_ (fun g i H => ?g4p) (fun E g i H => ?g4n)
    case' g4p =>
     obtain rfl := si_ H
    case' g4n =>
     revert H; refine iteB_ (fun t H => ?g5p) (fun t H => ?g5n)
     case' g5p =>
      subst t; obtain rfl := si_ H
     case' g5n =>
      subst t; obtain rfl := si_ H
   case' g3n =>
    subst s; obtain rfl := si_ H
  case' g2n =>
   subst q; obtain rfl := si_ H
 case' g1n =>
  subst p; obtain rfl := si_ H
 all_goals
  go_enter Tryz.func163, Tryz.ntmps163; go_wp2_with (first | ((with_reducible refine gate_callee (f := 188) rfl ?_); refine gL _ Tryz.func188 _ ((strings_CutPrefix.calls j (⟨#[98, 121, 116, 101, 115, 61]⟩ : ByteArray) l _ _ x.out).mono ?_); rintro e w' ⟨rfl, ⟨nd, rfl⟩⟩; refine ⟨_, rfl, ?_⟩) | ((with_reducible refine gate_callee (f := 90) rfl ?_); refine gL _ Tryz.func90 _ ((strings_Cut.calls l (⟨#[45]⟩ : ByteArray) n d _ _ ?side1 y.out).mono ?_); (case side1 => exact ⟨lE⟩); rintro e w' ⟨rfl, ⟨nd, rfl⟩⟩; refine ⟨_, rfl, ?_⟩) | ((with_reducible refine gate_callee (f := 129) rfl ?_); refine gL _ Tryz.func129 _ ((octet_Digits.calls k n o _ _ A.out).mono ?_); rintro e w' ⟨rfl, ⟨nd, rfl⟩⟩; refine ⟨_, rfl, ?_⟩) | ((with_reducible refine gate_callee (f := 129) rfl ?_); refine gL _ Tryz.func129 _ ((octet_Digits.calls k d v _ _ D.out).mono ?_); rintro e w' ⟨rfl, ⟨nd, rfl⟩⟩; refine ⟨_, rfl, ?_⟩)); go_ret; exact ⟨rS, dE⟩
def safe_Header.j0 : Nat → ByteArray → ByteArray → Bool → Option (Bool)
 | 0, _, _, _ => none
 | k + 1, g, a, i => if i = true then ((safe_all.f g 161).bind fun b => (some b)) else (if a.toList = ([99, 111, 110, 116, 101, 110, 116, 45, 116, 121, 112, 101] : List UInt8) then ((safe_all.f g 160).bind fun c => (if c = true then ((safe_isForm.f k g).bind fun d => (some d)) else (some false))) else (if a.toList = ([114, 97, 110, 103, 101] : List UInt8) then ((safe_Range.f k g).bind fun e => (some e)) else (some false)))
def safe_Header.f (k : Nat) (c d : ByteArray) : Option (Bool) := (octet_Trim.f k d).bind fun b => (if (b.size : Int) > 128 then (some false) else ((octet_Lower.f c).bind fun a => (if a.toList = ([97, 99, 99, 101, 112, 116] : List UInt8) then ((safe_all.f b 160).bind fun e => (some e)) else (if a.toList = ([97, 99, 99, 101, 112, 116, 45, 108, 97, 110, 103, 117, 97, 103, 101] : List UInt8) then (safe_Header.j0 k b a (a.toList == ([97, 99, 99, 101, 112, 116, 45, 108, 97, 110, 103, 117, 97, 103, 101] : List UInt8))) else (safe_Header.j0 k b a (a.toList == ([99, 111, 110, 116, 101, 110, 116, 45, 108, 97, 110, 103, 117, 97, 103, 101] : List UInt8)))))))
theorem safe_Header.mono_l : ∀ k, (∀ a b c, LeO (safe_Header.j0 k a b c) (safe_Header.j0 (k + 1) a b c))
 | 0 => fun _ _ _ r h => by simp [safe_Header.j0] at h
 | k + 1 => by
  have ih0 := safe_Header.mono_l k
  ·intros
   have d := @octet_Trim.mono; have e := @safe_Range.mono; have g := @safe_isForm.mono; unfold safe_Header.j0
   exact moE
theorem safe_Header.mono : ∀ a b k, LeO (safe_Header.f k a b) (safe_Header.f (k + 1) a b) := by
 intro a b k
 have ih0 := safe_Header.mono_l k
 have c := @octet_Trim.mono; have d := @safe_Range.mono; have e := @safe_isForm.mono; unfold safe_Header.f
 exact moE
theorem safe_Header.calls (k : Nat) (b c : ByteArray) (r : Bool) (w : World) (hM_ : Aside0 (LaidW w)) (h : safe_Header.f k b c = some r) :
  Calls Tryz.prog 121 #[.agg #[.string b, .string c]] w fun e w' => e = .returned (.bool r) ∧ Below w.heap.size w w' := by
 have a4 := Tryz.underlying28; have HB := Aside0.mk (Below.refl w.heap.size w); have H := h; clear h; unfold safe_Header.f at H; replace H := bd_ H; obtain ⟨o, A1, H⟩ := H; revert H; refine itePP_ (fun K H => ?g1p) (fun K H => ?g1n)
 case' g1p =>
  have q : decide (128 < (o.size : Int)) = true := decide_eq_true K; have s : decide (128 < o.size) = true := decide_eq_true (by omega); clear K; obtain rfl := si_ H; have u := trivial
 case' g1n =>
  have q : decide (128 < (o.size : Int)) = false := decide_eq_false K; have s : decide (128 < o.size) = false := decide_eq_false (by omega); clear K; replace H := bd_ H; obtain ⟨Z, A3, H⟩ := H; revert H; refine iteEF_ (fun v x H => ?g2p) (fun c4 v x H => ?g2n)
  case' g2p =>
   replace H := bd_ H; obtain ⟨t3, A5, H⟩ := H; obtain rfl := si_ H; have u := trivial
  case' g2n =>
   have z := Aside0.mk H; clear H; have L := trivial
 all_goals
  go_enter Tryz.func121, Tryz.ntmps121
  first
  | clear u
    go_wp2_with (first | ((with_reducible refine gate_dst (N := 1) rfl ?_); refine bxE (N := 1) (cs := #[.string b, .string c]) (t := 28) fun p hg M hbox hb => ?_; obtain ⟨HB', a, l⟩ := bx_ bE hg hbox hb; have A := l; clear HB hb hbox hg; have HB := HB'; clear HB'; obtain ⟨m, n, g, i⟩ := bk2_ a) | ((with_reducible refine gate_callee (f := 77) rfl ?_); refine gL _ Tryz.func77 _ ((octet_Trim.calls k c _ _ A1.out).mono ?_); rintro e w' ⟨rfl, ⟨nd, rfl⟩⟩; refine ⟨_, rfl, ?_⟩) | ((with_reducible refine gate_callee (f := 95) rfl ?_); refine gL _ Tryz.func95 _ ((octet_Lower.calls b _ _ A3.out).mono ?_); rintro e O ⟨rfl, hb⟩; refine ⟨_, rfl, ?_⟩; replace a := kM a hb; replace HB := bS bE hb; (try clear hb)) | ((with_reducible refine gate_callee (f := 159) rfl ?_); refine gL _ Tryz.func159 _ ((safe_all.calls o 160 _ _ A5.out).mono ?_); rintro e w' ⟨rfl, ⟨nd, rfl⟩⟩; refine ⟨_, rfl, ?_⟩)); go_ret; exact ⟨rE, bE⟩
  | clear L
    go_upto_if 17 with (first | ((with_reducible refine gate_dst (N := 1) rfl ?_); refine bxE (N := 1) (cs := #[.string b, .string c]) (t := 28) fun p hg M hbox hb => ?_; obtain ⟨HB', a, l⟩ := bx_ bE hg hbox hb; have A := l; clear HB hb hbox hg; have HB := HB'; clear HB'; obtain ⟨m, n, g, i⟩ := bk2_ a) | ((with_reducible refine gate_callee (f := 77) rfl ?_); refine gL _ Tryz.func77 _ ((octet_Trim.calls k c o _ A1.out).mono ?_); rintro e w' ⟨rfl, ⟨nd, rfl⟩⟩; refine ⟨_, rfl, ?_⟩) | ((with_reducible refine gate_callee (f := 95) rfl ?_); refine gL _ Tryz.func95 _ ((octet_Lower.calls b Z _ A3.out).mono ?_); rintro e O ⟨rfl, hb⟩; refine ⟨_, rfl, ?_⟩; replace a := kM a hb; replace HB := bS bE hb; (try clear hb)))
    (try simp only [Act.put, List.setIfInBounds_toArray, List.set_cons_zero, List.set_cons_succ])
    go_cut [17] (fun U wc => ∃ (kq : Nat) (d : Bool), U = .bool d ∧ Aside0 (safe_Header.j0 kq o Z d = some r) ∧ Aside0 (kq ≤ k) ∧ Aside0 (wc.heap[p]? = some (.cells #[.string b, .string c] 28 (0, 0))) ∧ Aside0 (Below w.heap.size w wc))
    case first =>
     have H := z.out; clear z; revert H; refine iteEF_ (fun j W H => ?g4p) (fun c6 j W H => ?g4n)
     case' g4p =>
      (first | rw [j] | (simp only [i64_w, i32_w]; rw [j]) | skip); have H' := Aside0.mk H; clear H; have X := trivial
     case' g4n =>
      (first | rw [j] | (simp only [i64_w, i32_w]; rw [j]) | skip); have H' := Aside0.mk H; clear H; have Y := trivial
     all_goals
      go_wp2; go_meet
      first
      | clear X
        case rel => exact ⟨_, ((Z.toList == ([97, 99, 99, 101, 112, 116, 45, 108, 97, 110, 103, 117, 97, 103, 101] : List UInt8))), rS, H', ⟨oE⟩, ⟨kC a⟩, ⟨bE⟩⟩
      | clear Y
        case rel => exact ⟨_, ((Z.toList == ([99, 111, 110, 116, 101, 110, 116, 45, 108, 97, 110, 103, 117, 97, 103, 101] : List UInt8))), rS, H', ⟨oE⟩, ⟨kC a⟩, ⟨bE⟩⟩
    case rest =>
     clear z; (try clear c6); (try clear K); (try clear q); (try clear s); (try clear c4); (try clear v); (try clear x); (try clear m); (try clear n); (try clear g); (try clear i); obtain ⟨kq, d, rfl, HA, HJ11, a, HB⟩ := hcut
     cases kq with
     | zero => exact absurd HA.out (by simp [safe_Header.j0])
     | succ y =>
      have H := HA.out; clear HA
      simp only [safe_Header.j0] at H
      revert H; refine iteB_ (fun B H => ?g6p) (fun B H => ?g6n)
      case' g6p =>
       subst B; replace H := bd_ H; obtain ⟨t4, a0, H⟩ := H; obtain rfl := si_ H
      case' g6n =>
       subst B; revert H; refine iteEF_ (fun D E H => ?g7p) (fun c12 D E H => ?g7n)
       case' g7p =>
        replace H := bd_ H; obtain ⟨t4, a1, H⟩ := H; revert H; refine iteB_ (fun G H => ?g8p) (fun G H => ?g8n)
        case' g8p =>
         subst G; replace H := bd_ H; obtain ⟨t5, a2, H⟩ := H; obtain rfl := si_ H
        case' g8n =>
         subst G; obtain rfl := si_ H
       case' g7n =>
        revert H; refine iteEF_ (fun I J H => ?g9p) (fun c13 I J H => ?g9n)
        case' g9p =>
         replace H := bd_ H; obtain ⟨t4, a3, H⟩ := H; obtain rfl := si_ H
        case' g9n =>
         obtain rfl := si_ H
      all_goals
       go_wp2_with (first | ((with_reducible refine gate_callee (f := 159) rfl ?_); refine gL _ Tryz.func159 _ ((safe_all.calls o 161 _ _ a0.out).mono ?_); rintro e w' ⟨rfl, ⟨nd, rfl⟩⟩; refine ⟨_, rfl, ?_⟩) | ((with_reducible refine gate_callee (f := 159) rfl ?_); refine gL _ Tryz.func159 _ ((safe_all.calls o 160 _ _ a1.out).mono ?_); rintro e w' ⟨rfl, ⟨nd, rfl⟩⟩; refine ⟨_, rfl, ?_⟩) | (go_at_call 162; (with_reducible refine (safe_isForm.calls y o _ _ ?side1 a2.out).mono ?_); (case side1 => exact ⟨lE⟩); rintro e w7a1 ⟨rfl, hb⟩; replace a := kM a hb; replace HB := bS bE hb; (try clear hb)) | ((with_reducible refine gate_callee (f := 163) rfl ?_); refine gL _ Tryz.func163 _ ((safe_Range.calls y o _ _ ?side1 a3.out).mono ?_); (case side1 => exact ⟨lE⟩); rintro e w' ⟨rfl, ⟨nd, rfl⟩⟩; refine ⟨_, rfl, ?_⟩)); go_ret; exact ⟨rE, bE⟩
end Go.Proofs.YtfmajangcbgooaaGreatDoor.Pr
