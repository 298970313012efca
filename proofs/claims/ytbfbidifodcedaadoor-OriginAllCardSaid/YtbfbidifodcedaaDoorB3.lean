/- Plain laws of chapter 3 (origin). -/
import Derived.Test.YtbfbidifodcedaaDoorB1
import Derived.Test.YtbfbidifodcedaaDoorPr3
import Derived.Test.YtbfbidifodcedaaDoorPr4
import Derived.Test.YtbfbidifodcedaaDoorPr5
import Derived.Test.YtbfbidifodcedaaDoorPr6
namespace Go.Proofs.YtbfbidifodcedaaDoor.Pr
open Go.RowKit Go.Proofs.YtbfbidifodcedaaDoorW.PrintWords Go.Proofs.YtbfbidifodcedaaDoorW.PrintLast
set_option linter.unusedVariables false
set_option linter.unusedSimpArgs false

def defP (s : ByteArray) : Int := if s.toList = ([104, 116, 116, 112] : List UInt8) then 80 else if s.toList = ([104, 116, 116, 112, 115] : List UInt8) then 443 else 0
theorem def_f (s : ByteArray) : origin_Default.f s = some (defP s) := by
  unfold origin_Default.f defP
  split
  · rfl
  · split <;> rfl

/-! ### labels, hosts -/
def labC (c : UInt8) : Bool := decide ((97 ≤ c.toNat ∧ c.toNat ≤ 122) ∨ (48 ≤ c.toNat ∧ c.toNat ≤ 57) ∨ c.toNat = 45)
theorem lab_if (c : UInt8) (X : Nat → Option Bool) (r : Bool) (hX : Ev X r) :
    Ev (fun k => if (c.toNat : Int) < 97 then (if (c.toNat : Int) < 48 then (if (c.toNat : Int) = 45 then X k else some false) else (if (c.toNat : Int) > 57 then (if (c.toNat : Int) = 45 then X k else some false) else X k)) else (if (c.toNat : Int) > 122 then (if (c.toNat : Int) < 48 then (if (c.toNat : Int) = 45 then X k else some false) else (if (c.toNat : Int) > 57 then (if (c.toNat : Int) = 45 then X k else some false) else X k)) else X k)) (labC c && r) := by
  have yes : ((97 ≤ c.toNat ∧ c.toNat ≤ 122) ∨ (48 ≤ c.toNat ∧ c.toNat ≤ 57) ∨ c.toNat = 45) → Ev X (labC c && r) := fun h => by
    unfold labC
    rw [decide_eq_true h, Bool.true_and]
    exact hX
  have no : ¬ ((97 ≤ c.toNat ∧ c.toNat ≤ 122) ∨ (48 ≤ c.toNat ∧ c.toNat ≤ 57) ∨ c.toNat = 45) → Ev (fun _ : Nat => some false) (labC c && r) := fun h => by
    unfold labC
    rw [decide_eq_false h, Bool.false_and]
    exact Ev.now _
  by_cases h1 : (c.toNat : Int) < 97
  · refine evPos h1 ?_
    by_cases h2 : (c.toNat : Int) < 48
    · refine evPos h2 ?_
      by_cases h3 : (c.toNat : Int) = 45
      · exact evPos h3 (yes (by omega))
      · exact evNeg h3 (no (by omega))
    · refine evNeg h2 ?_
      by_cases h3 : (c.toNat : Int) > 57
      · exact evPos h3 (evNeg (by omega) (no (by omega)))
      · exact evNeg h3 (yes (by omega))
  · refine evNeg h1 ?_
    by_cases h2 : (c.toNat : Int) > 122
    · exact evPos h2 (evNeg (by omega) (evPos (by omega) (evNeg (by omega) (no (by omega)))))
    · exact evNeg h2 (yes (by omega))
def labB (s : ByteArray) : Bool := if (s.size : Int) < 1 then false else if (s.size : Int) > 63 then false else if bt s 0 = 45 then false else if bt s ((s.size - 1 : Nat) : Int) = 45 then false else s.data.toList.all labC
theorem label_l0 (s : ByteArray) (hs : s.size ≤ 4611686018427387904) (r : Bs) : ∀ p : Bs, s.data.toList = p ++ r → Ev (fun k => origin_isLabel.l0 k s (s.size : Int) (p.length : Int)) (r.all labC) := by
  induction r with
  | nil =>
    intro p hp
    have hl : s.size = p.length := by rw [size_len, hp]; simp
    refine evSucc ?_
    simp only [origin_isLabel.l0]
    exact evNeg (by omega) (Ev.now _)
  | cons c r ih =>
    intro p hp
    have hl : s.size = p.length + (r.length + 1) := by rw [size_len, hp]; simp
    have hb := bt_mid s p c r hp
    have e2 : wrap64 ((p.length : Int) + 1) = ((p ++ [c]).length : Int) := by simp; unfold wrap64; omega
    have ih' := ih (p ++ [c]) (by rw [hp]; simp)
    refine evSucc ?_
    simp only [origin_isLabel.l0, hb, e2]
    rw [List.all_cons]
    exact evPos (by omega) (evPos (by omega) (evPos (by omega) (lab_if c _ _ ih')))
theorem label_ev (s : ByteArray) (hs : s.size ≤ 4611686018427387904) : Ev (fun k => origin_isLabel.f k s) (labB s) := by
  have jt : Ev (fun k => origin_isLabel.j0 k s true) false := by
    refine evSucc ?_
    simp only [origin_isLabel.j0, if_true]
    exact Ev.now _
  unfold origin_isLabel.f labB
  refine evIte (fun _ => jt) fun h1 => evIte (fun _ => jt) fun h2 => evPos (by omega) (evIte (fun _ => jt) fun h3 => ?_)
  have e1 : wrap64 ((s.size : Int) - 1) = ((s.size - 1 : Nat) : Int) := by unfold wrap64; omega
  rw [e1]
  refine evPos (by omega) (evPos (by omega) ?_)
  by_cases h4 : bt s ((s.size - 1 : Nat) : Int) = 45
  · rw [h4, if_pos rfl]
    exact jt
  · rw [if_neg h4, show (bt s ((s.size - 1 : Nat) : Int) == 45) = false by simpa using h4]
    refine evSucc ?_
    simp only [origin_isLabel.j0, Bool.false_eq_true, if_false]
    exact label_l0 s hs s.data.toList [] rfl
def hostB (s : ByteArray) : Bool := if (s.size : Int) > 253 then false else ((splitC 46 s.data.toList).map bsOf).all labB
theorem host_l0 (L : List ByteArray) (hL : L.length ≤ 1000000) (hs : ∀ x ∈ L, x.size ≤ 1000000) : ∀ n i, i + n = L.length → Ev (fun k => origin_isHost.l0 k L (L.length : Int) (i : Int)) ((L.drop i).all labB) := by
  intro n
  induction n with
  | zero =>
    intro i hi
    rw [List.drop_of_length_le (by omega), List.all_nil]
    refine evSucc ?_
    simp only [origin_isHost.l0]
    exact evNeg (by omega) (Ev.now _)
  | succ n ih =>
    intro i hi
    have hlt : i < L.length := by omega
    have e2 : wrap64 ((i : Int) + 1) = ((i + 1 : Nat) : Int) := by unfold wrap64; omega
    have hz := hs _ (List.getElem_mem hlt)
    rw [List.drop_eq_getElem_cons hlt, List.all_cons]
    refine evSucc ?_
    simp only [origin_isHost.l0, e2]
    rw [rdOf_get _ _ hlt]
    refine evPos (by omega) (evPos (by omega) (evPos (by omega) (Ev.bind (label_ev _ (by omega)) ?_)))
    cases labB L[i] with
    | true => rw [Bool.true_and]; exact evPos rfl (ih (i + 1) (by omega))
    | false => rw [Bool.false_and]; exact evNeg (by decide) (Ev.now _)
theorem host_ev (s : ByteArray) (hs : s.size ≤ 100000) : Ev (fun k => origin_isHost.f k s) (hostB s) := by
  unfold origin_isHost.f hostB
  refine evIte (fun _ => Ev.now _) fun h => evBind (split1_f s 46 (by omega)) ?_
  rw [splitL_bs]
  have h1 := splitC_count 46 s.data.toList
  rw [← size_len] at h1
  have := host_l0 ((splitC 46 s.data.toList).map bsOf) (by simp; omega) (fun x hx => by
    obtain ⟨y, hy, rfl⟩ := List.mem_map.1 hx
    have := (splitC_mem 46 _ y hy).2
    rw [size_bsOf]
    rw [← size_len] at this
    omega) ((splitC 46 s.data.toList).map bsOf).length 0 (by omega)
  simpa using this

/-! ### Check, port, Parse -/
def chkS (a b : ByteArray) (p : Int) : Bool := if defP a = 0 then false else if hostB b = true then (if p ≥ 1 then decide (p ≤ 65535) else false) else false
theorem chk_ev (a b : ByteArray) (p : Int) (hb : b.size ≤ 100000) : Ev (fun k => origin_Check.f k a b p) (chkS a b p) := by
  unfold origin_Check.f chkS
  exact evBind (def_f a) (evIte (fun _ => Ev.now _) fun _ => Ev.bind (host_ev b hb) (evIte (fun _ => evIte (fun _ => Ev.now _) fun _ => Ev.now _) fun _ => Ev.now _))
theorem digStep_nonneg (n : Int) (c : UInt8) : 0 ≤ digStep n c := by
  unfold digStep
  split
  · omega
  · rw [show ∀ x : Int, IntKind.u64.wrap x = x % 18446744073709551616 from fun x => by simp [IntKind.wrap, IntKind.bits, IntKind.signed]]
    omega
theorem digGo_nonneg (l : Bs) : ∀ n v, 0 ≤ n → digGo n l = some v → 0 ≤ v := by
  induction l with
  | nil => intro n v h0 h; rw [digGo] at h; injection h with h; omega
  | cons c l ih =>
    intro n v h0 h
    rw [digGo] at h
    split at h
    · exact ih _ v (digStep_nonneg n c) h
    · cases h
theorem digS_nonneg (s : ByteArray) : 0 ≤ (digS s).1 := by
  unfold digS
  cases h : digGo 0 s.data.toList with
  | none => simp
  | some v => exact digGo_nonneg _ 0 v (by omega) h
theorem digS_pos (s : ByteArray) (h : (digS s).2 = true) : 0 < s.size := by
  rw [size_len]
  unfold digS at h
  cases hg : digGo 0 s.data.toList with
  | none => rw [hg] at h; cases h
  | some v =>
    rw [hg] at h
    cases hl : s.data.toList with
    | nil => rw [hl] at h; simp at h
    | cons c l => simp
def portS (s : ByteArray) : Int := if (digS s).2 = true then (if (s.size : Int) > 5 then 0 else if bt s 0 = 48 then 0 else if (digS s).1 > 65535 then 0 else (digS s).1) else 0
theorem port_ev (s : ByteArray) (hs : s.size ≤ 100000) : Ev (fun k => origin_port.f k s) (portS s) := by
  unfold origin_port.f portS
  refine Ev.bind (digits_ev s (by omega)) (evIte (fun h => evIte (fun _ => Ev.now _) fun _ => evPos (by have := digS_pos s h; omega) (evIte (fun _ => Ev.now _) fun _ => evIte (fun _ => Ev.now _) fun h5 => evEq (Ev.now _) ?_)) fun _ => Ev.now _)
  have h0 := digS_nonneg s
  unfold wrap64
  omega
abbrev OT : Type := ByteArray × ByteArray × Int × Int
def sSep : ByteArray := (⟨#[58, 47, 47]⟩ : ByteArray)
def sCol : ByteArray := (⟨#[58]⟩ : ByteArray)
def noO : OT := (⟨#[]⟩, ⟨#[]⟩, 0, 3)
def madeS (a b : ByteArray) (p : Int) : OT := if chkS a b p = true then (a, b, p, 0) else noO
def parseS (s : ByteArray) : OT :=
  if (s.size : Int) > 512 then (⟨#[]⟩, ⟨#[]⟩, 0, 4)
  else if (cutS (lowB s) sSep).2.2 = true then
    (if (cutS (cutS (lowB s) sSep).2.1 sCol).2.2 = true then madeS (cutS (lowB s) sSep).1 (cutS (cutS (lowB s) sSep).2.1 sCol).1 (portS (cutS (cutS (lowB s) sSep).2.1 sCol).2.1)
     else madeS (cutS (lowB s) sSep).1 (cutS (cutS (lowB s) sSep).2.1 sCol).1 (defP (cutS (lowB s) sSep).1))
  else noO
theorem parse_ev (s : ByteArray) (hs : s.size ≤ 4294967280) : Ev (fun k => origin_Parse.f k s) (parseS s) := by
  unfold origin_Parse.f parseS
  refine evIte (fun _ => Ev.now _) fun h => ?_
  have e1 := lowB_size s
  have c1 := cutS_size (lowB s) sSep
  have c2 := cutS_size (cutS (lowB s) sSep).2.1 sCol
  refine evBind (lower_f s (by omega)) (evBind (cut_f (lowB s) sSep (by omega)) (evIte (fun _ => evBind (cut_f _ sCol (by omega)) (evBind (def_f _) (evIte (fun _ => Ev.bind (port_ev _ (by omega)) (Ev.bind (chk_ev _ _ _ (by omega)) ?_)) fun _ => Ev.bind (chk_ev _ _ _ (by omega)) ?_))) fun _ => Ev.now _))
  · unfold madeS
    exact evIte (fun _ => Ev.now _) fun _ => Ev.now _
  · unfold madeS
    exact evIte (fun _ => Ev.now _) fun _ => Ev.now _

/-! ### Show, Key -/
def keyS (a b : ByteArray) (p : Int) : ByteArray := if chkS a b p = true then a ++ sSep ++ b ++ sCol ++ bsOf (numL p.toNat) else ⟨#[]⟩
def showS (a b : ByteArray) (p : Int) : ByteArray := if chkS a b p = true then (if p = defP a then a ++ sSep ++ b else keyS a b p) else keyS a b p
theorem chk_port {a b : ByteArray} {p : Int} (h : chkS a b p = true) : 1 ≤ p ∧ p ≤ 65535 := by
  unfold chkS at h
  split at h
  · cases h
  · split at h
    · split at h
      · rename_i h1; exact ⟨by omega, of_decide_eq_true h⟩
      · cases h
    · cases h
theorem key_ev (a b : ByteArray) (p : Int) (ha : a.size ≤ 100000) (hb : b.size ≤ 100000) : Ev (fun k => origin_Key.f k a b p) (keyS a b p) := by
  unfold origin_Key.f keyS
  refine Ev.bind (chk_ev a b p hb) (evIte (fun h => ?_) fun _ => Ev.now _)
  obtain ⟨p1, p2⟩ := chk_port h
  obtain ⟨n, rfl⟩ := Int.eq_ofNat_of_zero_le (show 0 ≤ p by omega)
  have z1 : (a ++ sSep).size = a.size + 3 := by rw [ByteArray.size_append]; rfl
  have z2 : (a ++ sSep ++ b).size = a.size + 3 + b.size := by rw [ByteArray.size_append, z1]
  have z3 : (a ++ sSep ++ b ++ sCol).size = a.size + 3 + b.size + 1 := by rw [ByteArray.size_append, z2]; rfl
  have hl := numL_length 19 n (by omega)
  have z4 : (bsOf (numL n)).size = (numL n).length := size_bsOf _
  refine evPos (by omega) (evPos (by show (a ++ sSep).size + b.size ≤ _; omega) (evPos (by show (a ++ sSep ++ b).size + 1 ≤ _; omega) (evBind (itoa_f n (by omega)) (evPos (by show (a ++ sSep ++ b ++ sCol).size + _ ≤ _; omega) (Ev.now _)))))
theorem show_ev (a b : ByteArray) (p : Int) (ha : a.size ≤ 100000) (hb : b.size ≤ 100000) : Ev (fun k => origin_Show.f k a b p) (showS a b p) := by
  unfold origin_Show.f showS
  have z1 : (a ++ sSep).size = a.size + 3 := by rw [ByteArray.size_append]; rfl
  refine Ev.bind (chk_ev a b p hb) (evIte (fun h => evBind (def_f a) (evIte (fun _ => evPos (by omega) (evPos (by show (a ++ sSep).size + b.size ≤ _; omega) (Ev.now _))) fun _ => Ev.bind (key_ev a b p ha hb) (Ev.now _))) fun _ => Ev.bind (key_ev a b p ha hb) (Ev.now _))

/-! ### what is told is read -/
theorem splitC_chars (c : UInt8) (P : UInt8 → Prop) (l : Bs) (h : ∀ y ∈ splitC c l, ∀ d ∈ y, P d) : ∀ d ∈ l, d = c ∨ P d := by
  induction l with
  | nil => intro d hd; cases hd
  | cons b l ih =>
    rw [splitC] at h
    by_cases hb : b = c
    · rw [if_pos hb] at h
      intro d hd
      rcases List.mem_cons.1 hd with rfl | hd
      · exact .inl hb
      · exact ih (fun y hy => h y (by simp [hy])) d hd
    · rw [if_neg hb] at h
      cases hs : splitC c l with
      | nil => exact absurd hs (splitC_ne c l)
      | cons x xs =>
        rw [hs] at h ih
        have h1 := h (b :: x) (by simp)
        intro d hd
        rcases List.mem_cons.1 hd with rfl | hd
        · exact .inr (h1 d (by simp))
        · refine ih (fun y hy => ?_) d hd
          rcases List.mem_cons.1 hy with rfl | hy
          · exact fun e he => h1 e (by simp [he])
          · exact h y (by simp [hy])
theorem host_chars {s : ByteArray} (h : hostB s = true) : s.size ≤ 253 ∧ ∀ d ∈ s.data.toList, d = 46 ∨ labC d = true := by
  unfold hostB at h
  split at h
  · cases h
  · rename_i h1
    refine ⟨by omega, splitC_chars 46 (fun d => labC d = true) _ fun y hy d hd => ?_⟩
    have := List.all_eq_true.1 h (bsOf y) (List.mem_map.2 ⟨y, hy, rfl⟩)
    unfold labB at this
    repeat' split at this
    all_goals first | cases this | exact List.all_eq_true.1 this d hd
theorem chk_def {a b : ByteArray} {p : Int} (h : chkS a b p = true) : (a.data.toList = ([104, 116, 116, 112] : List UInt8) ∨ a.data.toList = ([104, 116, 116, 112, 115] : List UInt8)) ∧ hostB b = true := by
  unfold chkS at h
  split at h
  · cases h
  · rename_i h1
    split at h
    · rename_i h2
      refine ⟨?_, h2⟩
      unfold defP at h1
      split at h1
      · rename_i h3; exact .inl (by rw [← h3, tl])
      · split at h1
        · rename_i h3; exact .inr (by rw [← h3, tl])
        · exact absurd rfl h1
    · cases h
theorem lab_low (d : UInt8) (h : d = 46 ∨ labC d = true) : lowC d = d ∧ d ≠ 58 := by
  have hn : ¬ (65 ≤ d.toNat ∧ d.toNat ≤ 90) ∧ d.toNat ≠ 58 := by
    rcases h with rfl | h
    · decide
    · have := of_decide_eq_true h
      omega
  refine ⟨?_, fun e => hn.2 (by rw [e]; rfl)⟩
  unfold lowC
  rw [if_neg]
  intro h2
  exact hn.1 (by simpa [UInt8.le_iff_toNat_le] using h2)
theorem num_low (d : UInt8) (h : isNum d) : lowC d = d ∧ d ≠ 58 := by
  refine ⟨?_, fun e => ?_⟩
  · unfold lowC
    rw [if_neg]
    intro h2
    have : 65 ≤ d.toNat := by simpa [UInt8.le_iff_toNat_le] using h2.1
    unfold isNum at h
    omega
  · subst e
    unfold isNum at h
    have : (58 : UInt8).toNat = 58 := rfl
    omega
theorem cut_sep (s : ByteArray) (A R : Bs) (hA : A = ([104, 116, 116, 112] : List UInt8) ∨ A = ([104, 116, 116, 112, 115] : List UInt8)) (hs : s.data.toList = A ++ (([58, 47, 47] : List UInt8) ++ R)) : cutS s sSep = (bsOf A, bsOf R, true) := by
  unfold cutS Lib.cut
  rw [hs]
  have hsep : sSep.data.toList = ([58, 47, 47] : List UInt8) := rfl
  rw [hsep]
  rcases hA with rfl | rfl
  · have e : Lib.index (([104, 116, 116, 112] : List UInt8) ++ (([58, 47, 47] : List UInt8) ++ R)) ([58, 47, 47] : List UInt8) = 4 := by simp [Lib.index, List.isPrefixOf]
    rw [e]
    rfl
  · have e : Lib.index (([104, 116, 116, 112, 115] : List UInt8) ++ (([58, 47, 47] : List UInt8) ++ R)) ([58, 47, 47] : List UInt8) = 5 := by simp [Lib.index, List.isPrefixOf]
    rw [e]
    rfl
theorem low_all (s : ByteArray) (h : ∀ c ∈ s.data.toList, lowC c = c) : lowB s = s := by
  apply ba_ext
  rw [lowB_data, lowL_id _ h]
theorem low_sch (A : Bs) (hA : A = ([104, 116, 116, 112] : List UInt8) ∨ A = ([104, 116, 116, 112, 115] : List UInt8)) : ∀ c ∈ A ++ ([58, 47, 47] : List UInt8), lowC c = c := by
  rcases hA with rfl | rfl <;> decide
theorem portS_num (n : Nat) (h1 : 1 ≤ n) (h2 : n ≤ 65535) : portS (bsOf (numL n)) = n := by
  have hd : digS (bsOf (numL n)) = ((n : Int), true) := by
    rw [digS_L, bsOf_data]
    exact digL_num 0 n (by omega)
  obtain ⟨c, l, e, hc⟩ := numL_head n h1
  have hl := numL_length 4 n (by omega)
  have hb : bt (bsOf (numL n)) 0 = (c.toNat : Int) := bt_mid (bsOf (numL n)) [] c l (by rw [bsOf_data, e]; rfl)
  unfold portS
  rw [hd, if_pos rfl, if_neg (by rw [size_bsOf]; omega), if_neg, if_neg (by show ¬ (n : Int) > 65535; omega)]
  rw [hb]
  intro h
  refine hc (UInt8.toNat_inj.1 ?_)
  have : (48 : UInt8).toNat = 48 := rfl
  omega
theorem parse_key {a b : ByteArray} {p : Int} (h : chkS a b p = true) : parseS (keyS a b p) = (a, b, p, 0) := by
  obtain ⟨ha, hb⟩ := chk_def h
  obtain ⟨hz, hch⟩ := host_chars hb
  obtain ⟨p1, p2⟩ := chk_port h
  obtain ⟨n, rfl⟩ := Int.eq_ofNat_of_zero_le (show 0 ≤ p by omega)
  have hl := numL_length 4 n (by omega)
  have hd : (keyS a b (n : Int)).data.toList = a.data.toList ++ (([58, 47, 47] : List UInt8) ++ (b.data.toList ++ 58 :: numL n)) := by
    unfold keyS
    rw [if_pos h, append_list, append_list, append_list, append_list]
    show ((a.data.toList ++ ([58, 47, 47] : List UInt8)) ++ b.data.toList ++ [58]) ++ numL n = _
    simp
  have hlow : lowB (keyS a b (n : Int)) = keyS a b (n : Int) := by
    refine low_all _ fun c hc => ?_
    rw [hd, ← List.append_assoc] at hc
    rcases List.mem_append.1 hc with hc | hc
    · exact low_sch _ ha c hc
    · rcases List.mem_append.1 hc with hc | hc
      · exact (lab_low c (hch c hc)).1
      · rcases List.mem_cons.1 hc with rfl | hc
        · decide
        · exact (num_low c (numL_chars n c hc)).1
  have hsz : (keyS a b (n : Int)).size ≤ 512 := by
    rw [size_len, hd]
    have : a.data.toList.length ≤ 5 := by rcases ha with e | e <;> rw [e] <;> decide
    rw [← size_len] at this
    simp
    omega
  have c1 := cut_sep (keyS a b (n : Int)) _ _ ha hd
  have c2 : cutS (bsOf (b.data.toList ++ 58 :: numL n)) sCol = (bsOf b.data.toList, bsOf (numL n), true) :=
    cutS_at _ _ _ 58 rfl (fun hm => (lab_low 58 (hch 58 hm)).2 rfl)
  unfold parseS
  rw [if_neg (by omega), hlow, c1]
  dsimp only
  rw [if_pos rfl, c2]
  dsimp only
  rw [if_pos rfl, bsOf_of, bsOf_of, portS_num n (by omega) (by omega)]
  unfold madeS
  rw [if_pos h]
theorem parse_show {a b : ByteArray} {p : Int} (h : chkS a b p = true) : parseS (showS a b p) = (a, b, p, 0) := by
  by_cases hp : p = defP a
  · obtain ⟨ha, hb⟩ := chk_def h
    obtain ⟨hz, hch⟩ := host_chars hb
    have e : showS a b p = a ++ sSep ++ b := by unfold showS; rw [if_pos h, if_pos hp]
    have hd : (a ++ sSep ++ b).data.toList = a.data.toList ++ (([58, 47, 47] : List UInt8) ++ b.data.toList) := by
      rw [append_list, append_list]
      show (a.data.toList ++ ([58, 47, 47] : List UInt8)) ++ b.data.toList = _
      simp
    have hlow : lowB (a ++ sSep ++ b) = a ++ sSep ++ b := by
      refine low_all _ fun c hc => ?_
      rw [hd, ← List.append_assoc] at hc
      rcases List.mem_append.1 hc with hc | hc
      · exact low_sch _ ha c hc
      · exact (lab_low c (hch c hc)).1
    have hsz : (a ++ sSep ++ b).size ≤ 512 := by
      rw [size_len, hd]
      have : a.data.toList.length ≤ 5 := by rcases ha with e | e <;> rw [e] <;> decide
      rw [← size_len] at this
      simp
      omega
    have c1 := cut_sep (a ++ sSep ++ b) _ _ ha hd
    have c2 : cutS (bsOf b.data.toList) sCol = (bsOf b.data.toList, ⟨#[]⟩, false) := cutS_not _ 58 (fun hm => (lab_low 58 (hch 58 hm)).2 rfl)
    rw [e]
    unfold parseS
    rw [if_neg (by omega), hlow, c1]
    dsimp only
    rw [if_pos rfl, c2]
    dsimp only
    rw [if_neg (by decide), bsOf_of, bsOf_of, ← hp]
    unfold madeS
    rw [if_pos h]
  · have e : showS a b p = keyS a b p := by unfold showS; rw [if_pos h, if_neg hp]
    rw [e]
    exact parse_key h
theorem chk_size {a b : ByteArray} {p : Int} (h : chkS a b p = true) : (showS a b p).size ≤ 1000 ∧ (keyS a b p).size ≤ 1000 := by
  have h1 := parse_show h
  have h2 := parse_key h
  refine ⟨?_, ?_⟩
  · rcases Nat.lt_or_ge 1000 (showS a b p).size with hg | hg
    · unfold parseS at h1
      rw [if_pos (by omega)] at h1
      have := congrArg (fun o : OT => o.2.2.2) h1
      cases this
    · exact hg
  · rcases Nat.lt_or_ge 1000 (keyS a b p).size with hg | hg
    · unfold parseS at h2
      rw [if_pos (by omega)] at h2
      have := congrArg (fun o : OT => o.2.2.2) h2
      cases this
    · exact hg
theorem parse_code (s : ByteArray) : ((parseS s).2.2.2 == 0) = chkS (parseS s).1 (parseS s).2.1 (parseS s).2.2.1 := by
  have hno : ∀ c : Int, c ≠ 0 → (((((⟨#[]⟩ : ByteArray), (⟨#[]⟩ : ByteArray), (0 : Int), c) : OT).2.2.2 == 0) = chkS (⟨#[]⟩ : ByteArray) (⟨#[]⟩ : ByteArray) 0) := by
    intro c hc
    have e : chkS (⟨#[]⟩ : ByteArray) (⟨#[]⟩ : ByteArray) 0 = false := by
      unfold chkS
      rw [if_pos (by unfold defP; rw [tl]; rfl)]
    rw [e]
    simpa using hc
  have hm : ∀ a b p, ((madeS a b p).2.2.2 == 0) = chkS (madeS a b p).1 (madeS a b p).2.1 (madeS a b p).2.2.1 := by
    intro a b p
    unfold madeS
    by_cases h : chkS a b p = true
    · rw [if_pos h]
      dsimp only
      rw [h]
      rfl
    · rw [if_neg h]
      exact hno 3 (by decide)
  unfold parseS
  split
  · exact hno 4 (by decide)
  · split
    · split
      · exact hm _ _ _
      · exact hm _ _ _
    · exact hno 3 (by decide)
theorem parse_sizes (s : ByteArray) (hs : s.size ≤ 100000) : (parseS s).1.size ≤ 100000 ∧ (parseS s).2.1.size ≤ 100000 := by
  have e1 := lowB_size s
  have c1 := cutS_size (lowB s) sSep
  have c2 := cutS_size (cutS (lowB s) sSep).2.1 sCol
  have z : (⟨#[]⟩ : ByteArray).size = 0 := rfl
  have hm : ∀ a b p, a.size ≤ 100000 → b.size ≤ 100000 → (madeS a b p).1.size ≤ 100000 ∧ (madeS a b p).2.1.size ≤ 100000 := by
    intro a b p ha hb
    unfold madeS noO
    split
    · exact ⟨ha, hb⟩
    · exact ⟨by dsimp only; omega, by dsimp only; omega⟩
  unfold parseS noO
  split
  · exact ⟨by dsimp only; omega, by dsimp only; omega⟩
  · split
    · split
      · exact hm _ _ _ (by omega) (by omega)
      · exact hm _ _ _ (by omega) (by omega)
    · exact ⟨by dsimp only; omega, by dsimp only; omega⟩
theorem awake3 : ∃ k, lockkeeperlaw3_awake.f k = some true := ⟨60, by decide +kernel⟩
theorem awake3_ev : Ev (fun k => lockkeeperlaw3_awake.f k) true := Ev.of lockkeeperlaw3_awake.mono awake3.choose_spec
end Go.Proofs.YtbfbidifodcedaaDoor.Pr
