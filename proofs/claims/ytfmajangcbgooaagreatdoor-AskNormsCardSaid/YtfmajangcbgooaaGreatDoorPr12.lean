-- Made by a program of this session (wip/xp/xp.py), over the print's words.
import Derived.Test.YtfmajangcbgooaaGreatDoorPr0
import Derived.Test.YtfmajangcbgooaaGreatDoorK0
import Derived.Test.YtfmajangcbgooaaGreatDoorPr5
import Derived.Test.YtfmajangcbgooaaGreatDoorPr6
import Derived.Test.YtfmajangcbgooaaGreatDoorPr10
import Derived.Test.YtfmajangcbgooaaGreatDoorPr11
import Derived.Test.YtfmajangcbgooaaGreatDoorG1
import Derived.Test.YtfmajangcbgooaaGreatDoorG5
namespace Go.Proofs.YtfmajangcbgooaaGreatDoor.Pr
open Go.RowKit Go.Proofs.YtfmajangcbgooaaGreatDoorW.PrintWords Go.Proofs.YtfmajangcbgooaaGreatDoorW.PrintLast Go.Proofs.YtfmajangcbgooaaGreatDoorW.PrintMore
attribute [local go_sem] max2_int min2_int max_two min_two max_three min_three max_four min_four   -- for this text's walks alone
set_option linter.unusedVariables false
set_option linter.unusedSimpArgs false

/-! ### safe_all: function 159 -/
theorem drawn_then {w w1 w2 : World} (h : Drawn0 w w1) (k : Drawn0 w1 w2) : Drawn0 w w2 := by
 obtain ⟨n, rfl⟩ := k
 exact h.step n
theorem allByte_total (c : Int) : safe_Byte.f c = some ((safe_Byte.f c).getD false) := by
 unfold safe_Byte.f strings_IndexByte.f
 simp only [Option.bind_some]
 repeat' split
 all_goals rfl
def allByte (s : ByteArray) : Bool := (bytesOf s).all fun c => (safe_Byte.f c).getD false
theorem allByte_at (s : ByteArray) (k : Nat) (h : k < s.size) : ((bytesOf s).drop k).all (fun c => (safe_Byte.f c).getD false) = ((safe_Byte.f (bt s k)).getD false && ((bytesOf s).drop (k + 1)).all fun c => (safe_Byte.f c).getD false) := by
 have h' : k < (bytesOf s).length := by rw [bytesOf_length]; exact h
 rw [List.drop_eq_getElem_cons h', List.all_cons]
 have hb : bt s k = (bytesOf s)[k] := by
  rw [← rd_bytesOf]
  simp [rd, List.getD_eq_getElem?_getD, h']
 rw [hb]
set_option maxHeartbeats 8000000 in
set_option maxRecDepth 100000 in
theorem allByte_calls (a0 : ByteArray) (w : World) (hs : a0.size ≤ 9223372036854775806) :
  Calls Tryz.prog 159 #[.string a0, .func (.func 160) #[] #[]] w fun e w' => e = .returned (.bool (allByte a0)) ∧ Drawn0 w w' := by
 go_enter Tryz.func159, Tryz.ntmps159
 go_wp2
 go_loopw [8] (fun v8 wr => ∃ k : Nat, k ≤ a0.size ∧ v8 = .int .i64 k ∧ Aside0 (allByte a0 = ((bytesOf a0).drop k).all fun c => (safe_Byte.f c).getD false) ∧ Aside0 (Drawn0 w wr)) (fun v8 _ => a0.size - (intOf v8).toNat)
 case atStart => exact ⟨0, Nat.zero_le _, rfl, ⟨by rw [List.drop_zero]; rfl⟩, ⟨Drawn0.refl _⟩⟩
 case round =>
  obtain ⟨k, hk, rfl, HE, HD⟩ := hrel
  by_cases hlt : k < a0.size
  ·have hne := allByte_at a0 k hlt
   have p1 : 0 ≤ (k : Int) := by omega
   have p2 : (k : Int) < (a0.size : Int) := by omega
   have hbt : bt a0 (k : Int) = ((a0[k]'hlt).toNat : Int) := by
    unfold bt
    rw [dif_pos (by simpa using hlt)]
    simp
   cases hb : (safe_Byte.f (bt a0 k)).getD false with
   | true =>
    rw [hb, Bool.true_and] at hne
    have HN := Aside0.mk hne
    have HT := Aside0.mk ((congrArg safe_Byte.f hbt).symm.trans ((allByte_total (bt a0 k)).trans (congrArg some hb)))
    clear hne hb
    go_wp2_with (go_at_call 160; refine (safe_Byte.calls _ true _ HT.out).mono ?_; rintro e w2 ⟨rfl, hd⟩; have HD2 := Aside0.mk hd; clear hd)
    exact ⟨⟨k + 1, by omega, by go_num, ⟨HE.out.trans HN.out⟩, ⟨drawn_then HD.out HD2.out⟩⟩, by simp [intOf]; omega⟩
   | false =>
    rw [hb, Bool.false_and] at hne
    have HN := Aside0.mk hne
    have HT := Aside0.mk ((congrArg safe_Byte.f hbt).symm.trans ((allByte_total (bt a0 k)).trans (congrArg some hb)))
    clear hne hb
    go_wp2_with (go_at_call 160; refine (safe_Byte.calls _ false _ HT.out).mono ?_; rintro e w2 ⟨rfl, hd⟩; have HD2 := Aside0.mk hd; clear hd)
    go_ret
    exact ⟨by rw [HE.out, HN.out]; rfl, drawn_then HD.out HD2.out⟩
  ·have e : k = a0.size := by omega
   have hz : ((bytesOf a0).drop k).all (fun c => (safe_Byte.f c).getD false) = true := by
    rw [List.drop_eq_nil_of_le (by rw [bytesOf_length]; omega)]
    rfl
   have HN := Aside0.mk hz
   clear hz
   go_wp2
   go_ret
   exact ⟨by rw [HE.out, HN.out]; rfl, HD.out⟩
theorem allWord_total (c : Int) : safe_word.f c = some ((safe_word.f c).getD false) := by
 unfold safe_word.f strings_IndexByte.f
 simp only [Option.bind_some]
 repeat' split
 all_goals rfl
def allWord (s : ByteArray) : Bool := (bytesOf s).all fun c => (safe_word.f c).getD false
theorem allWord_at (s : ByteArray) (k : Nat) (h : k < s.size) : ((bytesOf s).drop k).all (fun c => (safe_word.f c).getD false) = ((safe_word.f (bt s k)).getD false && ((bytesOf s).drop (k + 1)).all fun c => (safe_word.f c).getD false) := by
 have h' : k < (bytesOf s).length := by rw [bytesOf_length]; exact h
 rw [List.drop_eq_getElem_cons h', List.all_cons]
 have hb : bt s k = (bytesOf s)[k] := by
  rw [← rd_bytesOf]
  simp [rd, List.getD_eq_getElem?_getD, h']
 rw [hb]
set_option maxHeartbeats 8000000 in
set_option maxRecDepth 100000 in
theorem allWord_calls (a0 : ByteArray) (w : World) (hs : a0.size ≤ 9223372036854775806) :
  Calls Tryz.prog 159 #[.string a0, .func (.func 161) #[] #[]] w fun e w' => e = .returned (.bool (allWord a0)) ∧ Drawn0 w w' := by
 go_enter Tryz.func159, Tryz.ntmps159
 go_wp2
 go_loopw [8] (fun v8 wr => ∃ k : Nat, k ≤ a0.size ∧ v8 = .int .i64 k ∧ Aside0 (allWord a0 = ((bytesOf a0).drop k).all fun c => (safe_word.f c).getD false) ∧ Aside0 (Drawn0 w wr)) (fun v8 _ => a0.size - (intOf v8).toNat)
 case atStart => exact ⟨0, Nat.zero_le _, rfl, ⟨by rw [List.drop_zero]; rfl⟩, ⟨Drawn0.refl _⟩⟩
 case round =>
  obtain ⟨k, hk, rfl, HE, HD⟩ := hrel
  by_cases hlt : k < a0.size
  ·have hne := allWord_at a0 k hlt
   have p1 : 0 ≤ (k : Int) := by omega
   have p2 : (k : Int) < (a0.size : Int) := by omega
   have hbt : bt a0 (k : Int) = ((a0[k]'hlt).toNat : Int) := by
    unfold bt
    rw [dif_pos (by simpa using hlt)]
    simp
   cases hb : (safe_word.f (bt a0 k)).getD false with
   | true =>
    rw [hb, Bool.true_and] at hne
    have HN := Aside0.mk hne
    have HT := Aside0.mk ((congrArg safe_word.f hbt).symm.trans ((allWord_total (bt a0 k)).trans (congrArg some hb)))
    clear hne hb
    go_wp2_with (go_at_call 161; refine (safe_word.calls _ true _ HT.out).mono ?_; rintro e w2 ⟨rfl, hd⟩; have HD2 := Aside0.mk hd; clear hd)
    exact ⟨⟨k + 1, by omega, by go_num, ⟨HE.out.trans HN.out⟩, ⟨drawn_then HD.out HD2.out⟩⟩, by simp [intOf]; omega⟩
   | false =>
    rw [hb, Bool.false_and] at hne
    have HN := Aside0.mk hne
    have HT := Aside0.mk ((congrArg safe_word.f hbt).symm.trans ((allWord_total (bt a0 k)).trans (congrArg some hb)))
    clear hne hb
    go_wp2_with (go_at_call 161; refine (safe_word.calls _ false _ HT.out).mono ?_; rintro e w2 ⟨rfl, hd⟩; have HD2 := Aside0.mk hd; clear hd)
    go_ret
    exact ⟨by rw [HE.out, HN.out]; rfl, drawn_then HD.out HD2.out⟩
  ·have e : k = a0.size := by omega
   have hz : ((bytesOf a0).drop k).all (fun c => (safe_word.f c).getD false) = true := by
    rw [List.drop_eq_nil_of_le (by rw [bytesOf_length]; omega)]
    rfl
   have HN := Aside0.mk hz
   clear hz
   go_wp2
   go_ret
   exact ⟨by rw [HE.out, HN.out]; rfl, HD.out⟩
def safe_all.f (a0 : ByteArray) (a1 : Nat) : Option Bool := if a0.size ≤ 9223372036854775806 then (if a1 = 160 then some (allByte a0) else if a1 = 161 then some (allWord a0) else none) else none
theorem safe_all.calls (a0 : ByteArray) (a1 : Nat) (r : Bool) (w : World) (h : safe_all.f a0 a1 = some r) :
  Calls Tryz.prog 159 #[.string a0, .func (.func a1) #[] #[]] w fun e w' => e = .returned (.bool r) ∧ Drawn0 w w' := by
 unfold safe_all.f at h
 split at h
 case isFalse => cases h
 rename_i hs
 split at h
 ·rename_i h1
  subst h1
  obtain rfl := Option.some.inj h
  exact allByte_calls a0 w hs
 ·split at h
  ·rename_i h1
   subst h1
   obtain rfl := Option.some.inj h
   exact allWord_calls a0 w hs
  ·cases h


/-! ### safe_Essence: function 187 -/
def safe_Essence.f (k : Nat) (a0 : ByteArray) : Option (ByteArray × Bool) := (strings_Cut.f a0 (⟨#[59]⟩ : ByteArray)).bind fun bt211 => ((octet_Trim.f k bt211.1).bind fun t214 => ((strings_Cut.f t214 (⟨#[47]⟩ : ByteArray)).bind fun bt215 => (if bt215.2.2 = true then ((octet_Token.f k bt215.1).bind fun t218 => (if t218 = true then ((octet_Token.f k bt215.2.1).bind fun t219 => (if t219 = true then ((octet_Lower.f t214).bind fun t220 => (some (t220, true))) else (some ((⟨#[]⟩ : ByteArray), false)))) else (some ((⟨#[]⟩ : ByteArray), false)))) else (some ((⟨#[]⟩ : ByteArray), false)))))
theorem safe_Essence.mono : ∀ a0 k, LeO (safe_Essence.f k a0) (safe_Essence.f (k + 1) a0) := by
 intro a0 k
 have hm0 := @octet_Token.mono; have hm1 := @octet_Trim.mono; unfold safe_Essence.f
 exact moE

set_option maxHeartbeats 8000000 in
set_option maxRecDepth 100000 in
theorem safe_Essence.calls (k : Nat) (a0 : ByteArray) (r1 : ByteArray) (r2 : Bool) (w : World) (hM_ : Aside0 (LaidW w)) (h : safe_Essence.f k a0 = some (r1, r2)) :
  Calls Tryz.prog 187 #[.string a0] w fun e w' => e = .returned (.tuple #[.string r1, .bool r2]) ∧ Below w.heap.size w w' := by
 have HB := Aside0.mk (Below.refl w.heap.size w)
 have H : ((strings_Cut.f a0 (⟨#[59]⟩ : ByteArray)).bind fun bt1 => ((octet_Trim.f k bt1.1).bind fun t2 => ((strings_Cut.f t2 (⟨#[47]⟩ : ByteArray)).bind fun bt3 => (if bt3.2.2 = true then ((octet_Token.f k bt3.1).bind fun t4 => (if t4 = true then ((octet_Token.f k bt3.2.1).bind fun t5 => (if t5 = true then ((octet_Lower.f t2).bind fun t6 => (some (t6, true))) else (some ((⟨#[]⟩ : ByteArray), false)))) else (some ((⟨#[]⟩ : ByteArray), false)))) else (some ((⟨#[]⟩ : ByteArray), false)))))) = some (r1, r2) := h
 clear h
 replace H := bd_ H; obtain ⟨⟨t1, t7, t8⟩, A1, H⟩ := H
 replace H : ((octet_Trim.f k t1).bind fun t2 => ((strings_Cut.f t2 (⟨#[47]⟩ : ByteArray)).bind fun bt3 => (if bt3.2.2 = true then ((octet_Token.f k bt3.1).bind fun t4 => (if t4 = true then ((octet_Token.f k bt3.2.1).bind fun t5 => (if t5 = true then ((octet_Lower.f t2).bind fun t6 => (some (t6, true))) else (some ((⟨#[]⟩ : ByteArray), false)))) else (some ((⟨#[]⟩ : ByteArray), false)))) else (some ((⟨#[]⟩ : ByteArray), false))))) = some (r1, r2) := H
 replace H := bd_ H; obtain ⟨t2, A2, H⟩ := H
 replace H := bd_ H; obtain ⟨⟨t3, t9, t10⟩, A3, H⟩ := H
 replace H : (if t10 = true then ((octet_Token.f k t3).bind fun t4 => (if t4 = true then ((octet_Token.f k t9).bind fun t5 => (if t5 = true then ((octet_Lower.f t2).bind fun t6 => (some (t6, true))) else (some ((⟨#[]⟩ : ByteArray), false)))) else (some ((⟨#[]⟩ : ByteArray), false)))) else (some ((⟨#[]⟩ : ByteArray), false))) = some (r1, r2) := H
 refine em_ (t10 = true) (fun c4 => ?g1p) (fun c4 => ?g1n)
 case' g1p =>
  subst c4
  replace H := ifT_ H
  replace H := bd_ H; obtain ⟨t4, A5, H⟩ := H
  refine em_ (t4 = true) (fun c6 => ?g2p) (fun c6 => ?g2n)
  case' g2p =>
   subst c6
   replace H := ifT_ H
   replace H := bd_ H; obtain ⟨t5, A7, H⟩ := H
   refine em_ (t5 = true) (fun c8 => ?g3p) (fun c8 => ?g3n)
   case' g3p =>
    subst c8
    replace H := ifT_ H
    replace H := bd_ H; obtain ⟨t6, A9, H⟩ := H
    simp only [Option.some.injEq, Prod.mk.injEq] at H
    obtain ⟨rfl, rfl⟩ := H
   case' g3n =>
    replace c8 := Bool.eq_false_iff.mpr c8
    subst c8
    replace H := ifF_ H
    simp only [Option.some.injEq, Prod.mk.injEq] at H
    obtain ⟨rfl, rfl⟩ := H
  case' g2n =>
   replace c6 := Bool.eq_false_iff.mpr c6
   subst c6
   replace H := ifF_ H
   simp only [Option.some.injEq, Prod.mk.injEq] at H
   obtain ⟨rfl, rfl⟩ := H
 case' g1n =>
  replace c4 := Bool.eq_false_iff.mpr c4
  subst c4
  replace H := ifF_ H
  simp only [Option.some.injEq, Prod.mk.injEq] at H
  obtain ⟨rfl, rfl⟩ := H
 all_goals
  go_enter Tryz.func187, Tryz.ntmps187
  go_wp2_with (first | ((with_reducible refine gate_callee (f := 90) rfl ?_); refine gL (some 12) Tryz.func90 #[.string a0, .string (⟨#[59]⟩ : ByteArray)] ?_; (with_reducible refine (strings_Cut.calls a0 (⟨#[59]⟩ : ByteArray) t1 t7 _ _ ?side1 A1.out).mono ?_); (case side1 => exact ⟨lE⟩); rintro e w' ⟨rfl, ⟨nd, rfl⟩⟩; refine ⟨_, rfl, ?_⟩) | ((with_reducible refine gate_callee (f := 77) rfl ?_); refine gL (some 17) Tryz.func77 #[.string t1] ?_; (with_reducible refine (octet_Trim.calls k t1 _ _ A2.out).mono ?_); rintro e w' ⟨rfl, ⟨nd, rfl⟩⟩; refine ⟨_, rfl, ?_⟩) | ((with_reducible refine gate_callee (f := 90) rfl ?_); refine gL (some 20) Tryz.func90 #[.string t2, .string (⟨#[47]⟩ : ByteArray)] ?_; (with_reducible refine (strings_Cut.calls t2 (⟨#[47]⟩ : ByteArray) t3 t9 _ _ ?side1 A3.out).mono ?_); (case side1 => exact ⟨lE⟩); rintro e w' ⟨rfl, ⟨nd, rfl⟩⟩; refine ⟨_, rfl, ?_⟩) | (go_at_call 146; (with_reducible refine (octet_Token.calls k t3 _ _ A5.out).mono ?_); rintro e w' ⟨rfl, ⟨nd, rfl⟩⟩) | (go_at_call 146; (with_reducible refine (octet_Token.calls k t9 _ _ A7.out).mono ?_); rintro e w' ⟨rfl, ⟨nd, rfl⟩⟩) | ((with_reducible refine gate_callee (f := 95) rfl ?_); refine gL (some 37) Tryz.func95 #[.string t2] ?_; (with_reducible refine (octet_Lower.calls t2 _ _ A9.out).mono ?_); rintro e w6a1 ⟨rfl, hb⟩; refine ⟨_, rfl, ?_⟩; replace HB := bS bE hb; (try clear hb)))
  go_ret2
  exact ⟨rE, bE⟩

/-! ### safe_isForm: function 162 -/
def safe_isForm.f (k : Nat) (a0 : ByteArray) : Option (Bool) := (safe_Essence.f k a0).bind fun bt221 => (if bt221.1.toList = ([97, 112, 112, 108, 105, 99, 97, 116, 105, 111, 110, 47, 120, 45, 119, 119, 119, 45, 102, 111, 114, 109, 45, 117, 114, 108, 101, 110, 99, 111, 100, 101, 100] : List UInt8) then (some true) else (if bt221.1.toList = ([109, 117, 108, 116, 105, 112, 97, 114, 116, 47, 102, 111, 114, 109, 45, 100, 97, 116, 97] : List UInt8) then (some true) else (some (bt221.1.toList == ([116, 101, 120, 116, 47, 112, 108, 97, 105, 110] : List UInt8)))))
theorem safe_isForm.mono : ∀ a0 k, LeO (safe_isForm.f k a0) (safe_isForm.f (k + 1) a0) := by
 intro a0 k
 have hm0 := @safe_Essence.mono; unfold safe_isForm.f
 exact moE

set_option maxHeartbeats 8000000 in
set_option maxRecDepth 100000 in
theorem safe_isForm.calls (k : Nat) (a0 : ByteArray) (r : Bool) (w : World) (hM_ : Aside0 (LaidW w)) (h : safe_isForm.f k a0 = some r) :
  Calls Tryz.prog 162 #[.string a0] w fun e w' => e = .returned (.bool r) ∧ Below w.heap.size w w' := by
 have HB := Aside0.mk (Below.refl w.heap.size w)
 have H : ((safe_Essence.f k a0).bind fun bt1 => (if bt1.1.toList = ([97, 112, 112, 108, 105, 99, 97, 116, 105, 111, 110, 47, 120, 45, 119, 119, 119, 45, 102, 111, 114, 109, 45, 117, 114, 108, 101, 110, 99, 111, 100, 101, 100] : List UInt8) then (some true) else (if bt1.1.toList = ([109, 117, 108, 116, 105, 112, 97, 114, 116, 47, 102, 111, 114, 109, 45, 100, 97, 116, 97] : List UInt8) then (some true) else (some (bt1.1.toList == ([116, 101, 120, 116, 47, 112, 108, 97, 105, 110] : List UInt8)))))) = some r := h
 clear h
 replace H := bd_ H; obtain ⟨⟨t1, t2⟩, A1, H⟩ := H
 replace H : (if t1.toList = ([97, 112, 112, 108, 105, 99, 97, 116, 105, 111, 110, 47, 120, 45, 119, 119, 119, 45, 102, 111, 114, 109, 45, 117, 114, 108, 101, 110, 99, 111, 100, 101, 100] : List UInt8) then (some true) else (if t1.toList = ([109, 117, 108, 116, 105, 112, 97, 114, 116, 47, 102, 111, 114, 109, 45, 100, 97, 116, 97] : List UInt8) then (some true) else (some (t1.toList == ([116, 101, 120, 116, 47, 112, 108, 97, 105, 110] : List UInt8))))) = some r := H
 refine em_ (t1.toList = ([97, 112, 112, 108, 105, 99, 97, 116, 105, 111, 110, 47, 120, 45, 119, 119, 119, 45, 102, 111, 114, 109, 45, 117, 114, 108, 101, 110, 99, 111, 100, 101, 100] : List UInt8)) (fun c2 => ?g1p) (fun c2 => ?g1n)
 case' g1p =>
  rw [if_pos c2] at H
  have c2b0 : (t1.toList == ([97, 112, 112, 108, 105, 99, 97, 116, 105, 111, 110, 47, 120, 45, 119, 119, 119, 45, 102, 111, 114, 109, 45, 117, 114, 108, 101, 110, 99, 111, 100, 101, 100] : List UInt8)) = true := beq_iff_eq.mpr c2
  have c2b1 : (t1.toList != ([97, 112, 112, 108, 105, 99, 97, 116, 105, 111, 110, 47, 120, 45, 119, 119, 119, 45, 102, 111, 114, 109, 45, 117, 114, 108, 101, 110, 99, 111, 100, 101, 100] : List UInt8)) = false := bne_eq_false_iff_eq.mpr c2
  clear c2
  obtain rfl := si_ H
 case' g1n =>
  rw [if_neg c2] at H
  have c2b0 : (t1.toList == ([97, 112, 112, 108, 105, 99, 97, 116, 105, 111, 110, 47, 120, 45, 119, 119, 119, 45, 102, 111, 114, 109, 45, 117, 114, 108, 101, 110, 99, 111, 100, 101, 100] : List UInt8)) = false := beq_eq_false_iff_ne.mpr c2
  have c2b1 : (t1.toList != ([97, 112, 112, 108, 105, 99, 97, 116, 105, 111, 110, 47, 120, 45, 119, 119, 119, 45, 102, 111, 114, 109, 45, 117, 114, 108, 101, 110, 99, 111, 100, 101, 100] : List UInt8)) = true := bne_iff_ne.mpr c2
  refine em_ (t1.toList = ([109, 117, 108, 116, 105, 112, 97, 114, 116, 47, 102, 111, 114, 109, 45, 100, 97, 116, 97] : List UInt8)) (fun c3 => ?g2p) (fun c3 => ?g2n)
  case' g2p =>
   rw [if_pos c3] at H
   have c3b0 : (t1.toList == ([109, 117, 108, 116, 105, 112, 97, 114, 116, 47, 102, 111, 114, 109, 45, 100, 97, 116, 97] : List UInt8)) = true := beq_iff_eq.mpr c3
   have c3b1 : (t1.toList != ([109, 117, 108, 116, 105, 112, 97, 114, 116, 47, 102, 111, 114, 109, 45, 100, 97, 116, 97] : List UInt8)) = false := bne_eq_false_iff_eq.mpr c3
   clear c3
   obtain rfl := si_ H
  case' g2n =>
   rw [if_neg c3] at H
   have c3b0 : (t1.toList == ([109, 117, 108, 116, 105, 112, 97, 114, 116, 47, 102, 111, 114, 109, 45, 100, 97, 116, 97] : List UInt8)) = false := beq_eq_false_iff_ne.mpr c3
   have c3b1 : (t1.toList != ([109, 117, 108, 116, 105, 112, 97, 114, 116, 47, 102, 111, 114, 109, 45, 100, 97, 116, 97] : List UInt8)) = true := bne_iff_ne.mpr c3
   obtain rfl := si_ H
 all_goals
  go_enter Tryz.func162, Tryz.ntmps162
  go_wp2_with (first | ((with_reducible refine gate_callee (f := 187) rfl ?_); refine gL (some 7) Tryz.func187 #[.string a0] ?_; (with_reducible refine (safe_Essence.calls k a0 t1 _ _ ?side1 A1.out).mono ?_); (case side1 => exact ⟨lE⟩); rintro e w1a1 ⟨rfl, hb⟩; refine ⟨_, rfl, ?_⟩; replace HB := bS bE hb; (try clear hb)))
  go_ret
  exact ⟨rE, bE⟩

/-! ### stringslite_CutPrefix: function 208 -/
def stringslite_CutPrefix.f (a0 : ByteArray) (a1 : ByteArray) : Option (ByteArray × Bool) := (stringslite_HasPrefix.f a0 a1).bind fun t223 => (if t223 = true then (if 0 ≤ (a1.size : Int) then (if (a1.size : Int) ≤ (a0.size : Int) then (some (a0.extract ((a1.size : Int) : Int).toNat a0.size, true)) else (none)) else (none)) else (some (a0, false)))
set_option maxHeartbeats 8000000 in
set_option maxRecDepth 100000 in
theorem stringslite_CutPrefix.calls (a0 : ByteArray) (a1 : ByteArray) (r1 : ByteArray) (r2 : Bool) (w : World) (h : stringslite_CutPrefix.f a0 a1 = some (r1, r2)) :
  Calls Tryz.prog 208 #[.string a0, .string a1] w fun e w' => e = .returned (.tuple #[.string r1, .bool r2]) ∧ Drawn0 w w' := by
 have H : ((stringslite_HasPrefix.f a0 a1).bind fun t1 => (if t1 = true then (if 0 ≤ (a1.size : Int) then (if (a1.size : Int) ≤ (a0.size : Int) then (some (a0.extract ((a1.size : Int) : Int).toNat a0.size, true)) else (none)) else (none)) else (some (a0, false)))) = some (r1, r2) := h
 clear h
 replace H := bd_ H; obtain ⟨t1, A1, H⟩ := H
 refine em_ (t1 = true) (fun c2 => ?g1p) (fun c2 => ?g1n)
 case' g1p =>
  subst c2
  replace H := ifT_ H
  replace H := iteN_ H; obtain ⟨c3, H⟩ := H
  have c3b0 := eq_true c3
  have c3b1 : decide (0 ≤ (a1.size : Int)) = true := decide_eq_true c3
  clear c3
  replace H := iteN_ H; obtain ⟨c4, H⟩ := H
  have c4b0 := eq_true c4
  have c4b1 : decide ((a1.size : Int) ≤ (a0.size : Int)) = true := decide_eq_true c4
  clear c4
  simp only [Option.some.injEq, Prod.mk.injEq] at H
  obtain ⟨rfl, rfl⟩ := H
 case' g1n =>
  replace c2 := Bool.eq_false_iff.mpr c2
  subst c2
  replace H := ifF_ H
  simp only [Option.some.injEq, Prod.mk.injEq] at H
  obtain ⟨rfl, rfl⟩ := H
 all_goals
  go_enter Tryz.func208, Tryz.ntmps208
  go_wp2_with (first | ((with_reducible refine gate_callee (f := 186) rfl ?_); refine gL (some 8) Tryz.func186 #[.string a0, .string a1] ?_; (with_reducible refine (stringslite_HasPrefix.calls a0 a1 _ _ A1.out).mono ?_); rintro e w' ⟨rfl, ⟨nd, rfl⟩⟩; refine ⟨_, rfl, ?_⟩))
  go_ret2
  exact ⟨by first | rfl | (simp; done) | (simp [*]; done), by repeat (first | exact Drawn0.refl _ | apply Drawn0.step)⟩

/-! ### strings_CutPrefix: function 188 -/
def strings_CutPrefix.f (a0 : ByteArray) (a1 : ByteArray) : Option (ByteArray × Bool) := (stringslite_CutPrefix.f a0 a1).bind fun bt224 => (some (bt224.1, bt224.2))
set_option maxHeartbeats 8000000 in
set_option maxRecDepth 100000 in
theorem strings_CutPrefix.calls (a0 : ByteArray) (a1 : ByteArray) (r1 : ByteArray) (r2 : Bool) (w : World) (h : strings_CutPrefix.f a0 a1 = some (r1, r2)) :
  Calls Tryz.prog 188 #[.string a0, .string a1] w fun e w' => e = .returned (.tuple #[.string r1, .bool r2]) ∧ Drawn0 w w' := by
 have H : ((stringslite_CutPrefix.f a0 a1).bind fun bt1 => (some (bt1.1, bt1.2))) = some (r1, r2) := h
 clear h
 replace H := bd_ H; obtain ⟨⟨t1, t2⟩, A1, H⟩ := H
 replace H : (some (t1, t2)) = some (r1, r2) := H
 simp only [Option.some.injEq, Prod.mk.injEq] at H
 obtain ⟨rfl, rfl⟩ := H
 go_enter Tryz.func188, Tryz.ntmps188
 go_wp2_with (first | ((with_reducible refine gate_callee (f := 208) rfl ?_); refine gL (some 8) Tryz.func208 #[.string a0, .string a1] ?_; (with_reducible refine (stringslite_CutPrefix.calls a0 a1 t1 t2 _ A1.out).mono ?_); rintro e w' ⟨rfl, ⟨nd, rfl⟩⟩; refine ⟨_, rfl, ?_⟩))
 go_ret2
 exact ⟨by first | rfl | (simp; done) | (simp [*]; done), by repeat (first | exact Drawn0.refl _ | apply Drawn0.step)⟩

/-! ### safe_Range: function 163 -/
def safe_Range.f (k : Nat) (a0 : ByteArray) : Option (Bool) := (strings_CutPrefix.f a0 (⟨#[98, 121, 116, 101, 115, 61]⟩ : ByteArray)).bind fun bt226 => ((strings_Cut.f bt226.1 (⟨#[45]⟩ : ByteArray)).bind fun bt228 => ((octet_Digits.f k bt228.1).bind fun bt231 => (if bt226.2 = true then (if bt228.2.2 = true then (if bt231.2 = true then ((octet_Digits.f k bt228.2.1).bind fun bt233 => (if bt228.2.1.toList = ([] : List UInt8) then (some true) else (if bt233.2 = true then (some (decide (bt233.1 ≥ bt231.1))) else (some false)))) else (some false)) else (some false)) else (some false))))
theorem safe_Range.mono : ∀ a0 k, LeO (safe_Range.f k a0) (safe_Range.f (k + 1) a0) := by
 intro a0 k
 have hm0 := @octet_Digits.mono; unfold safe_Range.f
 exact moE

set_option maxHeartbeats 8000000 in
set_option maxRecDepth 100000 in
theorem safe_Range.calls (k : Nat) (a0 : ByteArray) (r : Bool) (w : World) (hM_ : Aside0 (LaidW w)) (h : safe_Range.f k a0 = some r) :
  Calls Tryz.prog 163 #[.string a0] w fun e w' => e = .returned (.bool r) ∧ Drawn0 w w' := by
 have H : ((strings_CutPrefix.f a0 (⟨#[98, 121, 116, 101, 115, 61]⟩ : ByteArray)).bind fun bt1 => ((strings_Cut.f bt1.1 (⟨#[45]⟩ : ByteArray)).bind fun bt2 => ((octet_Digits.f k bt2.1).bind fun bt3 => (if bt1.2 = true then (if bt2.2.2 = true then (if bt3.2 = true then ((octet_Digits.f k bt2.2.1).bind fun bt4 => (if bt2.2.1.toList = ([] : List UInt8) then (some true) else (if bt4.2 = true then (some (decide (bt4.1 ≥ bt3.1))) else (some false)))) else (some false)) else (some false)) else (some false))))) = some r := h
 clear h
 replace H := bd_ H; obtain ⟨⟨t1, t5⟩, A1, H⟩ := H
 replace H : ((strings_Cut.f t1 (⟨#[45]⟩ : ByteArray)).bind fun bt2 => ((octet_Digits.f k bt2.1).bind fun bt3 => (if t5 = true then (if bt2.2.2 = true then (if bt3.2 = true then ((octet_Digits.f k bt2.2.1).bind fun bt4 => (if bt2.2.1.toList = ([] : List UInt8) then (some true) else (if bt4.2 = true then (some (decide (bt4.1 ≥ bt3.1))) else (some false)))) else (some false)) else (some false)) else (some false)))) = some r := H
 replace H := bd_ H; obtain ⟨⟨t2, t6, t7⟩, A2, H⟩ := H
 replace H : ((octet_Digits.f k t2).bind fun bt3 => (if t5 = true then (if t7 = true then (if bt3.2 = true then ((octet_Digits.f k t6).bind fun bt4 => (if t6.toList = ([] : List UInt8) then (some true) else (if bt4.2 = true then (some (decide (bt4.1 ≥ bt3.1))) else (some false)))) else (some false)) else (some false)) else (some false))) = some r := H
 replace H := bd_ H; obtain ⟨⟨t3, t8⟩, A3, H⟩ := H
 replace H : (if t5 = true then (if t7 = true then (if t8 = true then ((octet_Digits.f k t6).bind fun bt4 => (if t6.toList = ([] : List UInt8) then (some true) else (if bt4.2 = true then (some (decide (bt4.1 ≥ t3))) else (some false)))) else (some false)) else (some false)) else (some false)) = some r := H
 refine em_ (t5 = true) (fun c4 => ?g1p) (fun c4 => ?g1n)
 case' g1p =>
  subst c4
  replace H := ifT_ H
  refine em_ (t7 = true) (fun c5 => ?g2p) (fun c5 => ?g2n)
  case' g2p =>
   subst c5
   replace H := ifT_ H
   refine em_ (t8 = true) (fun c6 => ?g3p) (fun c6 => ?g3n)
   case' g3p =>
    subst c6
    replace H := ifT_ H
    replace H := bd_ H; obtain ⟨⟨t4, t9⟩, A7, H⟩ := H
    replace H : (if t6.toList = ([] : List UInt8) then (some true) else (if t9 = true then (some (decide (t4 ≥ t3))) else (some false))) = some r := H
    refine em_ (t6.toList = ([] : List UInt8)) (fun c8 => ?g4p) (fun c8 => ?g4n)
    case' g4p =>
     rw [if_pos c8] at H
     have c8b0 : (t6.toList == ([] : List UInt8)) = true := beq_iff_eq.mpr c8
     have c8b1 : (t6.toList != ([] : List UInt8)) = false := bne_eq_false_iff_eq.mpr c8
     clear c8
     obtain rfl := si_ H
    case' g4n =>
     rw [if_neg c8] at H
     have c8b0 : (t6.toList == ([] : List UInt8)) = false := beq_eq_false_iff_ne.mpr c8
     have c8b1 : (t6.toList != ([] : List UInt8)) = true := bne_iff_ne.mpr c8
     refine em_ (t9 = true) (fun c9 => ?g5p) (fun c9 => ?g5n)
     case' g5p =>
      subst c9
      replace H := ifT_ H
      obtain rfl := si_ H
     case' g5n =>
      replace c9 := Bool.eq_false_iff.mpr c9
      subst c9
      replace H := ifF_ H
      obtain rfl := si_ H
   case' g3n =>
    replace c6 := Bool.eq_false_iff.mpr c6
    subst c6
    replace H := ifF_ H
    obtain rfl := si_ H
  case' g2n =>
   replace c5 := Bool.eq_false_iff.mpr c5
   subst c5
   replace H := ifF_ H
   obtain rfl := si_ H
 case' g1n =>
  replace c4 := Bool.eq_false_iff.mpr c4
  subst c4
  replace H := ifF_ H
  obtain rfl := si_ H
 all_goals
  go_enter Tryz.func163, Tryz.ntmps163
  go_wp2_with (first | ((with_reducible refine gate_callee (f := 188) rfl ?_); refine gL (some 14) Tryz.func188 #[.string a0, .string (⟨#[98, 121, 116, 101, 115, 61]⟩ : ByteArray)] ?_; (with_reducible refine (strings_CutPrefix.calls a0 (⟨#[98, 121, 116, 101, 115, 61]⟩ : ByteArray) t1 _ _ A1.out).mono ?_); rintro e w' ⟨rfl, ⟨nd, rfl⟩⟩; refine ⟨_, rfl, ?_⟩) | ((with_reducible refine gate_callee (f := 90) rfl ?_); refine gL (some 19) Tryz.func90 #[.string t1, .string (⟨#[45]⟩ : ByteArray)] ?_; (with_reducible refine (strings_Cut.calls t1 (⟨#[45]⟩ : ByteArray) t2 t6 _ _ ?side1 A2.out).mono ?_); (case side1 => exact ⟨lE⟩); rintro e w' ⟨rfl, ⟨nd, rfl⟩⟩; refine ⟨_, rfl, ?_⟩) | ((with_reducible refine gate_callee (f := 129) rfl ?_); refine gL (some 25) Tryz.func129 #[.string t2] ?_; (with_reducible refine (octet_Digits.calls k t2 t3 _ _ A3.out).mono ?_); rintro e w' ⟨rfl, ⟨nd, rfl⟩⟩; refine ⟨_, rfl, ?_⟩) | ((with_reducible refine gate_callee (f := 129) rfl ?_); refine gL (some 40) Tryz.func129 #[.string t6] ?_; (with_reducible refine (octet_Digits.calls k t6 t4 _ _ A7.out).mono ?_); rintro e w' ⟨rfl, ⟨nd, rfl⟩⟩; refine ⟨_, rfl, ?_⟩))
  go_ret
  exact ⟨by first | rfl | (simp; done) | (simp [*]; done), by repeat (first | exact Drawn0.refl _ | apply Drawn0.step)⟩

/-! ### safe_Header: function 121 -/
def safe_Header.j0 : Nat → ByteArray → ByteArray → Bool → Option (Bool)
 | 0, _, _, _ => none
 | k + 1, x3, x12, x17 => if x17 = true then ((safe_all.f x3 161).bind fun t239 => (some t239)) else (if x12.toList = ([99, 111, 110, 116, 101, 110, 116, 45, 116, 121, 112, 101] : List UInt8) then ((safe_all.f x3 160).bind fun t240 => (if t240 = true then ((safe_isForm.f k x3).bind fun t241 => (some t241)) else (some false))) else (if x12.toList = ([114, 97, 110, 103, 101] : List UInt8) then ((safe_Range.f k x3).bind fun t242 => (some t242)) else (some false)))
def safe_Header.f (k : Nat) (a0_0 : ByteArray) (a0_1 : ByteArray) : Option (Bool) := (octet_Trim.f k a0_1).bind fun t236 => (if (t236.size : Int) > 128 then (some false) else ((octet_Lower.f a0_0).bind fun t237 => (if t237.toList = ([97, 99, 99, 101, 112, 116] : List UInt8) then ((safe_all.f t236 160).bind fun t238 => (some t238)) else (if t237.toList = ([97, 99, 99, 101, 112, 116, 45, 108, 97, 110, 103, 117, 97, 103, 101] : List UInt8) then (safe_Header.j0 k t236 t237 (t237.toList == ([97, 99, 99, 101, 112, 116, 45, 108, 97, 110, 103, 117, 97, 103, 101] : List UInt8))) else (safe_Header.j0 k t236 t237 (t237.toList == ([99, 111, 110, 116, 101, 110, 116, 45, 108, 97, 110, 103, 117, 97, 103, 101] : List UInt8)))))))
theorem safe_Header.mono_l : ∀ k, (∀ y0 y1 y2, LeO (safe_Header.j0 k y0 y1 y2) (safe_Header.j0 (k + 1) y0 y1 y2))
 | 0 => fun _ _ _ r h => by simp [safe_Header.j0] at h
 | k + 1 => by
  have ih0 := safe_Header.mono_l k
  ·intros
   have hm0 := @octet_Trim.mono; have hm1 := @safe_Range.mono; have hm2 := @safe_isForm.mono; unfold safe_Header.j0
   exact moE

theorem safe_Header.mono : ∀ a0 a1 k, LeO (safe_Header.f k a0 a1) (safe_Header.f (k + 1) a0 a1) := by
 intro a0 a1 k
 have ih0 := safe_Header.mono_l k
 have hm0 := @octet_Trim.mono; have hm1 := @safe_Range.mono; have hm2 := @safe_isForm.mono; unfold safe_Header.f
 exact moE

set_option maxHeartbeats 8000000 in
set_option maxRecDepth 100000 in
theorem safe_Header.calls (k : Nat) (a0_0 : ByteArray) (a0_1 : ByteArray) (r : Bool) (w : World) (hM_ : Aside0 (LaidW w)) (h : safe_Header.f k a0_0 a0_1 = some r) :
  Calls Tryz.prog 121 #[.agg #[.string a0_0, .string a0_1]] w fun e w' => e = .returned (.bool r) ∧ Below w.heap.size w w' := by
 have hu28 := Tryz.underlying28
 have HB := Aside0.mk (Below.refl w.heap.size w)
 have H : ((octet_Trim.f k a0_1).bind fun t1 => (if (t1.size : Int) > 128 then (some false) else ((octet_Lower.f a0_0).bind fun t2 => (if t2.toList = ([97, 99, 99, 101, 112, 116] : List UInt8) then ((safe_all.f t1 160).bind fun t3 => (some t3)) else (if t2.toList = ([97, 99, 99, 101, 112, 116, 45, 108, 97, 110, 103, 117, 97, 103, 101] : List UInt8) then (safe_Header.j0 k t1 t2 (t2.toList == ([97, 99, 99, 101, 112, 116, 45, 108, 97, 110, 103, 117, 97, 103, 101] : List UInt8))) else (safe_Header.j0 k t1 t2 (t2.toList == ([99, 111, 110, 116, 101, 110, 116, 45, 108, 97, 110, 103, 117, 97, 103, 101] : List UInt8)))))))) = some r := h
 clear h
 replace H := bd_ H; obtain ⟨t1, A1, H⟩ := H
 refine em_ ((t1.size : Int) > 128) (fun c2 => ?g1p) (fun c2 => ?g1n)
 case' g1p =>
  rw [if_pos c2] at H
  have c2b0 : decide (128 < (t1.size : Int)) = true := decide_eq_true c2
  have c2b1 : decide (128 < t1.size) = true := decide_eq_true (by omega)
  clear c2
  obtain rfl := si_ H
  have M3_0 := trivial
 case' g1n =>
  rw [if_neg c2] at H
  have c2b0 : decide (128 < (t1.size : Int)) = false := decide_eq_false c2
  have c2b1 : decide (128 < t1.size) = false := decide_eq_false (by omega)
  clear c2
  replace H := bd_ H; obtain ⟨t2, A3, H⟩ := H
  refine em_ (t2.toList = ([97, 99, 99, 101, 112, 116] : List UInt8)) (fun c4 => ?g2p) (fun c4 => ?g2n)
  case' g2p =>
   rw [if_pos c4] at H
   have c4b0 : (t2.toList == ([97, 99, 99, 101, 112, 116] : List UInt8)) = true := beq_iff_eq.mpr c4
   have c4b1 : (t2.toList != ([97, 99, 99, 101, 112, 116] : List UInt8)) = false := bne_eq_false_iff_eq.mpr c4
   clear c4
   replace H := bd_ H; obtain ⟨t3, A5, H⟩ := H
   obtain rfl := si_ H
   have M3_0 := trivial
  case' g2n =>
   rw [if_neg c4] at H
   have c4b0 : (t2.toList == ([97, 99, 99, 101, 112, 116] : List UInt8)) = false := beq_eq_false_iff_ne.mpr c4
   have c4b1 : (t2.toList != ([97, 99, 99, 101, 112, 116] : List UInt8)) = true := bne_iff_ne.mpr c4
   have HC5 := Aside0.mk H
   clear H
   have M3_1 := trivial
 all_goals
  go_enter Tryz.func121, Tryz.ntmps121
  first
  | clear M3_0
    go_wp2_with (first | ((with_reducible refine gate_dst (N := 1) rfl ?_); refine bxE (N := 1) (cs := #[.string a0_0, .string a0_1]) (t := 28) fun gb1a1 hg w1a2 hbox hb => ?_; obtain ⟨HB', BK1a1, GW1a1⟩ := bx_ bE hg hbox hb; have GE1a1 := GW1a1; clear HB hb hbox hg; have HB := HB'; clear HB'; obtain ⟨z1a3_0, z1a3_1, zf1a3_0, zf1a3_1⟩ := bk2_ BK1a1) | ((with_reducible refine gate_callee (f := 77) rfl ?_); refine gL (some 6) Tryz.func77 #[.string a0_1] ?_; (with_reducible refine (octet_Trim.calls k a0_1 _ _ A1.out).mono ?_); rintro e w' ⟨rfl, ⟨nd, rfl⟩⟩; refine ⟨_, rfl, ?_⟩) | ((with_reducible refine gate_callee (f := 95) rfl ?_); refine gL (some 12) Tryz.func95 #[.string a0_0] ?_; (with_reducible refine (octet_Lower.calls a0_0 _ _ A3.out).mono ?_); rintro e w3a1 ⟨rfl, hb⟩; refine ⟨_, rfl, ?_⟩; replace BK1a1 := kM BK1a1 hb; replace HB := bS bE hb; (try clear hb)) | ((with_reducible refine gate_callee (f := 159) rfl ?_); refine gL (some 16) Tryz.func159 #[.string t1, .func (.func 160) #[] #[]] ?_; (with_reducible refine (safe_all.calls t1 160 _ _ A5.out).mono ?_); rintro e w' ⟨rfl, ⟨nd, rfl⟩⟩; refine ⟨_, rfl, ?_⟩))
    go_ret
    exact ⟨rE, bE⟩
  | clear M3_1
    go_upto_if 17 with (first | ((with_reducible refine gate_dst (N := 1) rfl ?_); refine bxE (N := 1) (cs := #[.string a0_0, .string a0_1]) (t := 28) fun gb1a1 hg w1a2 hbox hb => ?_; obtain ⟨HB', BK1a1, GW1a1⟩ := bx_ bE hg hbox hb; have GE1a1 := GW1a1; clear HB hb hbox hg; have HB := HB'; clear HB'; obtain ⟨z1a3_0, z1a3_1, zf1a3_0, zf1a3_1⟩ := bk2_ BK1a1) | ((with_reducible refine gate_callee (f := 77) rfl ?_); refine gL (some 6) Tryz.func77 #[.string a0_1] ?_; (with_reducible refine (octet_Trim.calls k a0_1 t1 _ A1.out).mono ?_); rintro e w' ⟨rfl, ⟨nd, rfl⟩⟩; refine ⟨_, rfl, ?_⟩) | ((with_reducible refine gate_callee (f := 95) rfl ?_); refine gL (some 12) Tryz.func95 #[.string a0_0] ?_; (with_reducible refine (octet_Lower.calls a0_0 t2 _ A3.out).mono ?_); rintro e w3a1 ⟨rfl, hb⟩; refine ⟨_, rfl, ?_⟩; replace BK1a1 := kM BK1a1 hb; replace HB := bS bE hb; (try clear hb)))
    (try simp only [Act.put, List.setIfInBounds_toArray, List.set_cons_zero, List.set_cons_succ])
    go_cut [17] (fun v4s1 wc => ∃ (kq : Nat) (x17_11 : Bool), v4s1 = .bool x17_11 ∧ Aside0 (safe_Header.j0 kq t1 t2 x17_11 = some r) ∧ Aside0 (kq ≤ k) ∧ Aside0 (wc.heap[gb1a1]? = some (.cells #[.string a0_0, .string a0_1] 28 (0, 0))) ∧ Aside0 (Below w.heap.size w wc))
    case first =>
     have H := HC5.out
     clear HC5
     refine em_ (t2.toList = ([97, 99, 99, 101, 112, 116, 45, 108, 97, 110, 103, 117, 97, 103, 101] : List UInt8)) (fun c6 => ?g4p) (fun c6 => ?g4n)
     case' g4p =>
      rw [if_pos c6] at H
      have c6b0 : (t2.toList == ([97, 99, 99, 101, 112, 116, 45, 108, 97, 110, 103, 117, 97, 103, 101] : List UInt8)) = true := beq_iff_eq.mpr c6
      have c6b1 : (t2.toList != ([97, 99, 99, 101, 112, 116, 45, 108, 97, 110, 103, 117, 97, 103, 101] : List UInt8)) = false := bne_eq_false_iff_eq.mpr c6
      clear c6
      (first | rw [c6b0] | (simp only [i64_w, i32_w]; rw [c6b0]) | skip)
      have H' := Aside0.mk H
      clear H
      have M5_0 := trivial
     case' g4n =>
      rw [if_neg c6] at H
      have c6b0 : (t2.toList == ([97, 99, 99, 101, 112, 116, 45, 108, 97, 110, 103, 117, 97, 103, 101] : List UInt8)) = false := beq_eq_false_iff_ne.mpr c6
      have c6b1 : (t2.toList != ([97, 99, 99, 101, 112, 116, 45, 108, 97, 110, 103, 117, 97, 103, 101] : List UInt8)) = true := bne_iff_ne.mpr c6
      (first | rw [c6b0] | (simp only [i64_w, i32_w]; rw [c6b0]) | skip)
      have H' := Aside0.mk H
      clear H
      have M5_1 := trivial
     all_goals
      go_wp2
      go_meet
      first
      | clear M5_0
        case rel => exact ⟨_, ((t2.toList == ([97, 99, 99, 101, 112, 116, 45, 108, 97, 110, 103, 117, 97, 103, 101] : List UInt8))), rS, H', ⟨oE⟩, ⟨kC BK1a1⟩, ⟨bE⟩⟩
      | clear M5_1
        case rel => exact ⟨_, ((t2.toList == ([99, 111, 110, 116, 101, 110, 116, 45, 108, 97, 110, 103, 117, 97, 103, 101] : List UInt8))), rS, H', ⟨oE⟩, ⟨kC BK1a1⟩, ⟨bE⟩⟩
    case rest =>
     clear HC5
     try clear c6
     try clear c2
     try clear c2b0
     try clear c2b1
     try clear c4
     try clear c4b0
     try clear c4b1
     try clear z1a3_0
     try clear z1a3_1
     try clear zf1a3_0
     try clear zf1a3_1
     obtain ⟨kq, x17_11, rfl, HA, HJ11, BK1a1, HB⟩ := hcut
     cases kq with
     | zero => exact absurd HA.out (by simp [safe_Header.j0])
     | succ kj11 =>
      have H := HA.out
      clear HA
      simp only [safe_Header.j0] at H
      refine em_ (x17_11 = true) (fun c11 => ?g6p) (fun c11 => ?g6n)
      case' g6p =>
       subst c11
       replace H := ifT_ H
       replace H := bd_ H; obtain ⟨t4, A12, H⟩ := H
       obtain rfl := si_ H
      case' g6n =>
       replace c11 := Bool.eq_false_iff.mpr c11
       subst c11
       replace H := ifF_ H
       refine em_ (t2.toList = ([99, 111, 110, 116, 101, 110, 116, 45, 116, 121, 112, 101] : List UInt8)) (fun c12 => ?g7p) (fun c12 => ?g7n)
       case' g7p =>
        rw [if_pos c12] at H
        have c12b0 : (t2.toList == ([99, 111, 110, 116, 101, 110, 116, 45, 116, 121, 112, 101] : List UInt8)) = true := beq_iff_eq.mpr c12
        have c12b1 : (t2.toList != ([99, 111, 110, 116, 101, 110, 116, 45, 116, 121, 112, 101] : List UInt8)) = false := bne_eq_false_iff_eq.mpr c12
        clear c12
        replace H := bd_ H; obtain ⟨t4, A13, H⟩ := H
        refine em_ (t4 = true) (fun c14 => ?g8p) (fun c14 => ?g8n)
        case' g8p =>
         subst c14
         replace H := ifT_ H
         replace H := bd_ H; obtain ⟨t5, A15, H⟩ := H
         obtain rfl := si_ H
        case' g8n =>
         replace c14 := Bool.eq_false_iff.mpr c14
         subst c14
         replace H := ifF_ H
         obtain rfl := si_ H
       case' g7n =>
        rw [if_neg c12] at H
        have c12b0 : (t2.toList == ([99, 111, 110, 116, 101, 110, 116, 45, 116, 121, 112, 101] : List UInt8)) = false := beq_eq_false_iff_ne.mpr c12
        have c12b1 : (t2.toList != ([99, 111, 110, 116, 101, 110, 116, 45, 116, 121, 112, 101] : List UInt8)) = true := bne_iff_ne.mpr c12
        refine em_ (t2.toList = ([114, 97, 110, 103, 101] : List UInt8)) (fun c13 => ?g9p) (fun c13 => ?g9n)
        case' g9p =>
         rw [if_pos c13] at H
         have c13b0 : (t2.toList == ([114, 97, 110, 103, 101] : List UInt8)) = true := beq_iff_eq.mpr c13
         have c13b1 : (t2.toList != ([114, 97, 110, 103, 101] : List UInt8)) = false := bne_eq_false_iff_eq.mpr c13
         clear c13
         replace H := bd_ H; obtain ⟨t4, A14, H⟩ := H
         obtain rfl := si_ H
        case' g9n =>
         rw [if_neg c13] at H
         have c13b0 : (t2.toList == ([114, 97, 110, 103, 101] : List UInt8)) = false := beq_eq_false_iff_ne.mpr c13
         have c13b1 : (t2.toList != ([114, 97, 110, 103, 101] : List UInt8)) = true := bne_iff_ne.mpr c13
         obtain rfl := si_ H
      all_goals
       go_wp2_with (first | ((with_reducible refine gate_callee (f := 159) rfl ?_); refine gL (some 21) Tryz.func159 #[.string t1, .func (.func 161) #[] #[]] ?_; (with_reducible refine (safe_all.calls t1 161 _ _ A12.out).mono ?_); rintro e w' ⟨rfl, ⟨nd, rfl⟩⟩; refine ⟨_, rfl, ?_⟩) | ((with_reducible refine gate_callee (f := 159) rfl ?_); refine gL (some 25) Tryz.func159 #[.string t1, .func (.func 160) #[] #[]] ?_; (with_reducible refine (safe_all.calls t1 160 _ _ A13.out).mono ?_); rintro e w' ⟨rfl, ⟨nd, rfl⟩⟩; refine ⟨_, rfl, ?_⟩) | (go_at_call 162; (with_reducible refine (safe_isForm.calls kj11 t1 _ _ ?side1 A15.out).mono ?_); (case side1 => exact ⟨lE⟩); rintro e w7a1 ⟨rfl, hb⟩; replace BK1a1 := kM BK1a1 hb; replace HB := bS bE hb; (try clear hb)) | ((with_reducible refine gate_callee (f := 163) rfl ?_); refine gL (some 33) Tryz.func163 #[.string t1] ?_; (with_reducible refine (safe_Range.calls kj11 t1 _ _ ?side1 A14.out).mono ?_); (case side1 => exact ⟨lE⟩); rintro e w' ⟨rfl, ⟨nd, rfl⟩⟩; refine ⟨_, rfl, ?_⟩))
       go_ret
       exact ⟨rE, bE⟩

end Go.Proofs.YtfmajangcbgooaaGreatDoor.Pr
