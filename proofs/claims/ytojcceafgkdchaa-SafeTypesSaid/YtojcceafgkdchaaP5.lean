/- Plain laws of the printed functions of chapter 7 (safe): digits, tokens, ranges, types, and whether a header is safe; safe.Names. -/
import Derived.Test.YtojcceafgkdchaaP4
import Derived.Test.YtojcceafgkdchaaPr10
import Derived.Test.YtojcceafgkdchaaPr11
import Derived.Test.YtojcceafgkdchaaPr12
import Derived.Test.YtojcceafgkdchaaPr18
namespace Go.Proofs.Ytojcceafgkdchaa.Pr
open Go.RowKit Go.Proofs.YtojcceafgkdchaaW.PrintWords Go.Proofs.YtojcceafgkdchaaW.PrintLast
set_option linter.unusedVariables false
set_option linter.unusedSimpArgs false

/-! ### octet.Digits -/
def isDig (c : UInt8) : Bool := decide ((c.toNat : Int) ≥ 48) && decide ((c.toNat : Int) ≤ 57)
theorem digit_f (c : UInt8) : octet_digit.f (c.toNat : Int) = some (isDig c) := by
  unfold octet_digit.f isDig
  by_cases h : (c.toNat : Int) ≥ 48
  · rw [if_pos h]; simp only [h, decide_true, Bool.true_and]
  · rw [if_neg h]; simp only [h, decide_false, Bool.false_and]
def digStep (n : Int) (c : UInt8) : Int :=
  if n > (18446744073709551615 - (((c.toNat : Int) - 48) % 256)) / 10 then 18446744073709551615 else IntKind.u64.wrap ((IntKind.u64.wrap (n * 10)) + (((c.toNat : Int) - 48) % 256))
def digGo : Int → Bs → Option Int
  | n, [] => some n
  | n, c :: r => if isDig c = true then digGo (digStep n c) r else none
def digS (s : ByteArray) : Int × Bool := match digGo 0 s.data.toList with
  | some n => (n, s.data.toList != [])
  | none => (0, false)
theorem bt_mid (s : ByteArray) (p : Bs) (c : UInt8) (r : Bs) (h : s.data.toList = p ++ c :: r) : bt s (p.length : Int) = (c.toNat : Int) := by
  rw [bt_get s p.length (by rw [size_len, h]; simp), h]
  simp [List.getD_eq_getElem?_getD]
theorem digits_l0 (s : ByteArray) (hs : s.size ≤ 4611686018427387904) (r : Bs) : ∀ (p : Bs) (n : Int), s.data.toList = p ++ r → 
    Ev (fun k => octet_Digits.l0 k s n (s.size : Int) (p.length : Int)) (match digGo n r with | some n => (n, s.data.toList != []) | none => (0, false)) := by
  induction r with
  | nil =>
    intro p n hp
    have hl : s.size = p.length := by rw [size_len, hp]; simp
    refine evSucc ?_
    simp only [octet_Digits.l0]
    refine evNeg (by omega) (evEq (Ev.now _) ?_)
    rw [tl]
    rfl
  | cons c r ih =>
    intro p n hp
    have hl : s.size = p.length + (r.length + 1) := by rw [size_len, hp]; simp
    have hb := bt_mid s p c r hp
    have e2 : wrap64 ((p.length : Int) + 1) = ((p ++ [c]).length : Int) := by simp; unfold wrap64; omega
    refine evSucc ?_
    simp only [octet_Digits.l0, hb, e2]
    refine evPos (by omega) (evPos (by omega) (evPos (by omega) (evBind (digit_f c) ?_)))
    rw [digGo]
    cases hd : isDig c with
    | true =>
      refine evPos rfl ?_
      simp only [if_true]
      by_cases hg : n > (18446744073709551615 - (((c.toNat : Int) - 48) % 256)) / 10
      · refine evPos hg ?_
        have := ih (p ++ [c]) (digStep n c) (by simpa using hp)
        rw [show digStep n c = 18446744073709551615 by unfold digStep; rw [if_pos hg]] at this ⊢
        exact this
      · refine evNeg hg ?_
        have := ih (p ++ [c]) (digStep n c) (by simpa using hp)
        rw [show digStep n c = IntKind.u64.wrap ((IntKind.u64.wrap (n * 10)) + (((c.toNat : Int) - 48) % 256)) by unfold digStep; rw [if_neg hg]] at this ⊢
        exact this
    | false =>
      refine evNeg (by decide) (evEq (Ev.now _) ?_)
      simp
theorem digits_ev (s : ByteArray) (hs : s.size ≤ 4611686018427387904) : Ev (fun k => octet_Digits.f k s) (digS s) := by
  have := digits_l0 s hs s.data.toList [] 0 rfl
  simpa [octet_Digits.f, digS] using this

/-! ### octet.Token -/
def isLet (c : UInt8) : Bool := (octet_letter.f (c.toNat : Int)).getD false
theorem letter_f (c : UInt8) : octet_letter.f (c.toNat : Int) = some (isLet c) := by
  unfold isLet octet_letter.f
  repeat' split
  all_goals rfl
def isMark (c : UInt8) : Bool := !(decide (Lib.indexByte ((⟨#[33, 35, 36, 37, 38, 39, 42, 43, 45, 46, 94, 95, 96, 124, 126]⟩ : ByteArray)).data.toList c < 0))
theorem mark_f (c : UInt8) : strings_IndexByte.f (⟨#[33, 35, 36, 37, 38, 39, 42, 43, 45, 46, 94, 95, 96, 124, 126]⟩ : ByteArray) (c.toNat : Int) = some (Lib.indexByte ((⟨#[33, 35, 36, 37, 38, 39, 42, 43, 45, 46, 94, 95, 96, 124, 126]⟩ : ByteArray)).data.toList c) := by
  unfold strings_IndexByte.f
  simp
def isTok (c : UInt8) : Bool := isLet c || isDig c || isMark c
def tokS (s : ByteArray) : Bool := s.data.toList.all isTok && s.data.toList != []
theorem token_l0 (s : ByteArray) (hs : s.size ≤ 4611686018427387904) (r : Bs) : ∀ (p : Bs), s.data.toList = p ++ r →
    Ev (fun k => octet_Token.l0 k s (s.size : Int) (p.length : Int)) (r.all isTok && s.data.toList != []) := by
  induction r with
  | nil =>
    intro p hp
    have hl : s.size = p.length := by rw [size_len, hp]; simp
    refine evSucc ?_
    simp only [octet_Token.l0]
    refine evNeg (by omega) (evEq (Ev.now _) ?_)
    rw [tl]
    simp
  | cons c r ih =>
    intro p hp
    have hl : s.size = p.length + (r.length + 1) := by rw [size_len, hp]; simp
    have hb := bt_mid s p c r hp
    have e2 : wrap64 ((p.length : Int) + 1) = ((p ++ [c]).length : Int) := by simp; unfold wrap64; omega
    have ih' := ih (p ++ [c]) (by simpa using hp)
    refine evSucc ?_
    simp only [octet_Token.l0, hb, e2]
    refine evPos (by omega) (evPos (by omega) (evPos (by omega) (evBind (letter_f c) ?_)))
    rw [List.all_cons]
    cases h1 : isLet c with
    | true => exact evPos rfl (evEq ih' (by simp [isTok, h1]))
    | false =>
      refine evNeg (by decide) (evBind (digit_f c) ?_)
      cases h2 : isDig c with
      | true => exact evPos rfl (evEq ih' (by simp [isTok, h2]))
      | false =>
        refine evNeg (by decide) (evBind (mark_f c) ?_)
        by_cases h3 : Lib.indexByte ((⟨#[33, 35, 36, 37, 38, 39, 42, 43, 45, 46, 94, 95, 96, 124, 126]⟩ : ByteArray)).data.toList c < 0
        · exact evPos h3 (evEq (Ev.now _) (by simp [isTok, h1, h2, isMark, h3]))
        · refine evNeg h3 (evEq ih' ?_)
          have : isTok c = true := by simp only [isTok, isMark, h3, decide_false, Bool.not_false, Bool.or_true]
          rw [this, Bool.true_and]
theorem token_ev (s : ByteArray) (hs : s.size ≤ 4611686018427387904) : Ev (fun k => octet_Token.f k s) (tokS s) := token_l0 s hs s.data.toList [] rfl

/-! ### strings.Cut -/
theorem cut_f (s sep : ByteArray) (hs : s.size ≤ 9223372036854775806) (h1 : sep.size = 1) : strings_Cut.f s sep = some (cutS s sep) := by
  unfold strings_Cut.f
  rw [if_pos ⟨hs, h1⟩]
theorem cutS_size (s sep : ByteArray) : (cutS s sep).1.size ≤ s.size ∧ (cutS s sep).2.1.size ≤ s.size := by
  have e := size_len s
  unfold cutS Lib.cut
  split
  · simp only [size_bsOf, List.length_take, List.length_drop]
    omega
  · simp only [size_bsOf, List.length_nil]
    omega

/-! ### safe.Range -/
def preS (s : ByteArray) : ByteArray × Bool := if (s.data.toList.take 6) = ([98, 121, 116, 101, 115, 61] : List UInt8) then (bsOf (s.data.toList.drop 6), true) else (s, false)
theorem prefix_f (s : ByteArray) : strings_CutPrefix.f s (⟨#[98, 121, 116, 101, 115, 61]⟩ : ByteArray) = some (preS s) := by
  unfold strings_CutPrefix.f stringslite_CutPrefix.f stringslite_HasPrefix.f preS
  have h6 : ((⟨#[98, 121, 116, 101, 115, 61]⟩ : ByteArray)).size = 6 := rfl
  rw [h6]
  have e1 : (s.extract 0 6).toList = s.data.toList.take 6 := by rw [tl, extract_list]; rfl
  have e2 : s.extract 6 s.size = bsOf (s.data.toList.drop 6) := by
    apply ba_ext
    rw [extract_list, size_len, List.take_length]
    rfl
  by_cases h : (s.size : Int) ≥ ((6 : Nat) : Int)
  · rw [if_pos h, if_pos (by omega), if_pos (by omega)]
    simp only [Option.bind_some, Int.toNat_natCast]
    rw [e1]
    by_cases h' : s.data.toList.take 6 = ([98, 121, 116, 101, 115, 61] : List UInt8)
    · rw [if_pos (by rw [h', tl]; rfl), if_pos (by omega), if_pos (by omega), if_pos h', e2]
      rfl
    · rw [if_neg (by simpa [tl] using h'), if_neg h']
      rfl
  · rw [if_neg h]
    have h' : ¬ s.data.toList.take 6 = ([98, 121, 116, 101, 115, 61] : List UInt8) := by
      intro e
      have := congrArg List.length e
      rw [List.length_take, ← size_len] at this
      simp at this
      omega
    simp only [Option.bind_some, Bool.false_eq_true, if_false]
    rw [if_neg h']
theorem preS_size (s : ByteArray) : (preS s).1.size ≤ s.size := by
  have e := size_len s
  unfold preS
  split
  · simp only [size_bsOf, List.length_drop]; omega
  · exact Nat.le_refl _
theorem evIte {α : Type} {c : Prop} [Decidable c] {g h : Nat → Option α} {r s : α} (hp : c → Ev g r) (hn : ¬ c → Ev h s) : Ev (fun k => if c then g k else h k) (if c then r else s) := by
  by_cases hc : c
  · rw [if_pos hc]; exact evPos hc (hp hc)
  · rw [if_neg hc]; exact evNeg hc (hn hc)
def rangeS (s : ByteArray) : Bool :=
  if (preS s).2 = true then (if (cutS (preS s).1 (⟨#[45]⟩ : ByteArray)).2.2 = true then (if (digS (cutS (preS s).1 (⟨#[45]⟩ : ByteArray)).1).2 = true then
    (if (cutS (preS s).1 (⟨#[45]⟩ : ByteArray)).2.1.toList = ([] : List UInt8) then true else if (digS (cutS (preS s).1 (⟨#[45]⟩ : ByteArray)).2.1).2 = true then decide ((digS (cutS (preS s).1 (⟨#[45]⟩ : ByteArray)).2.1).1 ≥ (digS (cutS (preS s).1 (⟨#[45]⟩ : ByteArray)).1).1) else false)
    else false) else false) else false
theorem range_ev (s : ByteArray) (hs : s.size ≤ 4611686018427387904) : Ev (fun k => safe_Range.f k s) (rangeS s) := by
  unfold safe_Range.f rangeS
  have h1 := preS_size s
  have h2 := cutS_size (preS s).1 (⟨#[45]⟩ : ByteArray)
  refine evBind (prefix_f s) (evBind (cut_f _ _ (by omega) rfl) (Ev.bind (digits_ev _ (by omega)) ?_))
  exact evIte (fun _ => evIte (fun _ => evIte (fun _ => Ev.bind (digits_ev _ (by omega)) (evIte (fun _ => Ev.now _) fun _ => evIte (fun _ => Ev.now _) fun _ => Ev.now _)) fun _ => Ev.now _) fun _ => Ev.now _) fun _ => Ev.now _

/-! ### safe.Essence, isForm -/
def essS (s : ByteArray) : ByteArray × Bool :=
  if (cutS (trimS (cutS s (⟨#[59]⟩ : ByteArray)).1) (⟨#[47]⟩ : ByteArray)).2.2 = true then (if tokS (cutS (trimS (cutS s (⟨#[59]⟩ : ByteArray)).1) (⟨#[47]⟩ : ByteArray)).1 = true then (if tokS (cutS (trimS (cutS s (⟨#[59]⟩ : ByteArray)).1) (⟨#[47]⟩ : ByteArray)).2.1 = true then (lowB (trimS (cutS s (⟨#[59]⟩ : ByteArray)).1), true) else (⟨#[]⟩, false)) else (⟨#[]⟩, false)) else (⟨#[]⟩, false)
theorem ess_ev (s : ByteArray) (hs : s.size ≤ 4611686018427387904) : Ev (fun k => safe_Essence.f k s) (essS s) := by
  unfold safe_Essence.f essS
  have h1 := cutS_size s (⟨#[59]⟩ : ByteArray)
  have h2 := trimS_size (cutS s (⟨#[59]⟩ : ByteArray)).1
  have h3 := cutS_size (trimS (cutS s (⟨#[59]⟩ : ByteArray)).1) (⟨#[47]⟩ : ByteArray)
  refine evBind (cut_f _ _ (by omega) rfl) (Ev.bind (trim_ev _ (by omega)) (evBind (cut_f _ _ (by omega) rfl) ?_))
  exact evIte (fun _ => Ev.bind (token_ev _ (by omega)) (evIte (fun _ => Ev.bind (token_ev _ (by omega)) (evIte (fun _ => evBind (lower_f _ (by omega)) (Ev.now _)) fun _ => Ev.now _)) fun _ => Ev.now _)) fun _ => Ev.now _
def formS (s : ByteArray) : Bool := if (essS s).1.toList = ([97, 112, 112, 108, 105, 99, 97, 116, 105, 111, 110, 47, 120, 45, 119, 119, 119, 45, 102, 111, 114, 109, 45, 117, 114, 108, 101, 110, 99, 111, 100, 101, 100] : List UInt8) then true else if (essS s).1.toList = ([109, 117, 108, 116, 105, 112, 97, 114, 116, 47, 102, 111, 114, 109, 45, 100, 97, 116, 97] : List UInt8) then true else (essS s).1.toList == ([116, 101, 120, 116, 47, 112, 108, 97, 105, 110] : List UInt8)
theorem form_ev (s : ByteArray) (hs : s.size ≤ 4611686018427387904) : Ev (fun k => safe_isForm.f k s) (formS s) := by
  unfold safe_isForm.f formS
  exact Ev.bind (ess_ev s hs) (evIte (fun _ => Ev.now _) fun _ => evIte (fun _ => Ev.now _) fun _ => Ev.now _)

/-! ### safe.Header -/
theorem allB_f (s : ByteArray) (h : s.size ≤ 9223372036854775806) : safe_all.f s 33 = some (allByte s) := by
  unfold safe_all.f
  rw [if_pos h, if_pos rfl]
theorem allW_f (s : ByteArray) (h : s.size ≤ 9223372036854775806) : safe_all.f s 60 = some (allWord s) := by
  unfold safe_all.f
  rw [if_pos h, if_neg (by decide), if_pos rfl]
def jointS (t n : ByteArray) (x : Bool) : Bool := if x = true then allWord t else if n.toList = ([99, 111, 110, 116, 101, 110, 116, 45, 116, 121, 112, 101] : List UInt8) then (if allByte t = true then formS t else false) else if n.toList = ([114, 97, 110, 103, 101] : List UInt8) then rangeS t else false
def safeS (f0 f1 : ByteArray) : Bool :=
  if ((trimS f1).size : Int) > 128 then false
  else if (lowB f0).toList = ([97, 99, 99, 101, 112, 116] : List UInt8) then allByte (trimS f1)
  else if (lowB f0).toList = ([97, 99, 99, 101, 112, 116, 45, 108, 97, 110, 103, 117, 97, 103, 101] : List UInt8) then jointS (trimS f1) (lowB f0) ((lowB f0).toList == ([97, 99, 99, 101, 112, 116, 45, 108, 97, 110, 103, 117, 97, 103, 101] : List UInt8))
  else jointS (trimS f1) (lowB f0) ((lowB f0).toList == ([99, 111, 110, 116, 101, 110, 116, 45, 108, 97, 110, 103, 117, 97, 103, 101] : List UInt8))
theorem header_j0 (t n : ByteArray) (hs : t.size ≤ 4611686018427387904) (x : Bool) : Ev (fun k => safe_Header.j0 k t n x) (jointS t n x) := by
  refine evSucc ?_
  simp only [safe_Header.j0]
  unfold jointS
  exact evIte (fun _ => evBind (allW_f t (by omega)) (Ev.now _)) fun _ => evIte (fun _ => evBind (allB_f t (by omega)) (evIte (fun _ => Ev.bind (form_ev t hs) (Ev.now _)) fun _ => Ev.now _)) fun _ =>
    evIte (fun _ => Ev.bind (range_ev t hs) (Ev.now _)) fun _ => Ev.now _
theorem header_ev (f0 f1 : ByteArray) (h0 : f0.size ≤ 1000000) (h1 : f1.size ≤ 1000000) : Ev (fun k => safe_Header.f k f0 f1) (safeS f0 f1) := by
  unfold safe_Header.f safeS
  have ht := trimS_size f1
  refine Ev.bind (trim_ev f1 (by omega)) (evIte (fun _ => Ev.now _) fun _ => evBind (lower_f f0 (by omega)) ?_)
  exact evIte (fun _ => evBind (allB_f _ (by omega)) (Ev.now _)) fun _ => evIte (fun _ => header_j0 _ _ (by omega) _) fun _ => header_j0 _ _ (by omega) _

/-! ### safe.Names -/
def hsafe (h : Hd) : Bool := safeS h.f0 h.f1
def lowN (l : List Hd) : List ByteArray := l.map fun h => lowB h.f0
def unsafeN (l : List Hd) : List ByteArray := lowN (l.filter fun h => !hsafe h)
def safeN (l : List Hd) : List ByteArray := lowN (l.filter hsafe)
def totalN (l : List Hd) : Nat := ((l.filter hsafe).map fun h => (trimS h.f1).size).sum
def snames (l : List Hd) : List ByteArray := if (totalN l : Int) > 1024 then riseB (unsafeN l ++ safeN l) else riseB (unsafeN l)
theorem unsafeN_append (l m : List Hd) : unsafeN (l ++ m) = unsafeN l ++ unsafeN m := by simp [unsafeN, lowN]
theorem safeN_append (l m : List Hd) : safeN (l ++ m) = safeN l ++ safeN m := by simp [safeN, lowN]
theorem totalN_append (l m : List Hd) : totalN (l ++ m) = totalN l + totalN m := by simp [totalN]
theorem unsafeN_length (l : List Hd) : (unsafeN l).length ≤ l.length := by
  have := List.length_filter_le (fun h => !hsafe h) l
  simpa [unsafeN, lowN] using this
theorem safeN_length (l : List Hd) : (safeN l).length ≤ l.length := by
  have := List.length_filter_le hsafe l
  simpa [safeN, lowN] using this
theorem sum_le (l : List Nat) (n : Nat) (h : ∀ x ∈ l, x ≤ n) : l.sum ≤ l.length * n := by
  induction l with
  | nil => simp
  | cons a l ih =>
    have h1 := h a (by simp)
    have h2 := ih fun x hx => h x (by simp [hx])
    simp only [List.sum_cons, List.length_cons, Nat.add_mul]
    omega
theorem totalN_le {l : List Hd} (hl : HOk l) : totalN l ≤ 1000000000 := by
  unfold totalN
  have h1 := sum_le ((l.filter hsafe).map fun h => (trimS h.f1).size) 1000000 (fun x hx => by
    obtain ⟨h, hm, rfl⟩ := List.mem_map.1 hx
    have := trimS_size h.f1
    have := (hl.2 h (List.mem_filter.1 hm).1).2
    omega)
  have h2 := List.length_filter_le hsafe l
  have h3 := hl.1
  rw [List.length_map] at h1
  have : (l.filter hsafe).length * 1000000 ≤ 1000 * 1000000 := Nat.mul_le_mul_right _ (by omega)
  omega
theorem HOk.left {l m : List Hd} (h : HOk (l ++ m)) : HOk l := ⟨by have := h.1; rw [List.length_append] at this; omega, fun x hx => h.2 x (List.mem_append_left _ hx)⟩
theorem snames_l0 (l : List Hd) (hl : HOk l) (r : List Hd) : ∀ p, p ++ r = l →
    Ev (fun k => safe_Names.l0 k (unsafeN p) (safeN p) (totalN p : Int) l (l.length : Int) (p.length : Int)) (snames l) := by
  have h1 := hl.1
  induction r with
  | nil =>
    intro p hp
    rw [List.append_nil] at hp
    subst hp
    have hu := unsafeN_length p
    have hs := safeN_length p
    refine evSucc ?_
    simp only [safe_Names.l0]
    refine evNeg (by omega) ?_
    unfold snames
    refine evIte (fun h => evPos (by omega) (evBind (sort_f _ (by rw [List.length_append]; omega)) (evBind (compact_f _ ?_) ?_))) (fun h => evBind (sort_f _ (by omega)) (evBind (compact_f _ ?_) ?_))
    · rw [sortB_length, List.length_append]; omega
    · rw [sortCompact]; exact Ev.now _
    · rw [sortB_length]; omega
    · rw [sortCompact]; exact Ev.now _
  | cons h r ih =>
    intro p hp
    have hlen : l.length = p.length + (r.length + 1) := by rw [← hp]; simp
    have hh := hl.2 h (by rw [← hp]; simp)
    have hr : rd_T26 l (p.length : Int) = h := by rw [← hp]; exact rd_mid p h r
    have e2 : wrap64 ((p.length : Int) + 1) = ((p ++ [h]).length : Int) := by simp; unfold wrap64; omega
    have hp' : (p ++ [h]) ++ r = l := by simpa using hp
    have hpo : HOk p := by rw [← hp] at hl; exact hl.left
    have ht := totalN_le hpo
    have hu := unsafeN_length p
    have hs := safeN_length p
    have htr := trimS_size h.f1
    have ih' := ih (p ++ [h]) hp'
    rw [unsafeN_append, safeN_append, totalN_append] at ih'
    refine evSucc ?_
    simp only [safe_Names.l0, hr, e2]
    refine evPos (by omega) (evPos (by omega) (evPos (by omega) (Ev.bind (header_ev _ _ hh.1 hh.2) ?_)))
    cases hd : safeS h.f0 h.f1 with
    | true =>
      refine evPos rfl (Ev.bind (trim_ev _ (by omega)) (evBind (lower_f _ (by omega)) (evPos (by omega) ?_)))
      have e3 : wrap64 ((totalN p : Int) + ((trimS h.f1).size : Int)) = ((totalN p + totalN [h] : Nat) : Int) := by
        have : totalN [h] = (trimS h.f1).size := by simp [totalN, hsafe, hd]
        rw [this]
        unfold wrap64
        omega
      rw [e3]
      have e4 : unsafeN [h] = [] := by simp [unsafeN, lowN, hsafe, hd]
      have e5 : safeN [h] = [lowB h.f0] := by simp [safeN, lowN, hsafe, hd]
      rw [e4, e5, List.append_nil] at ih'
      exact ih'
    | false =>
      refine evNeg (by decide) (evBind (lower_f _ (by omega)) (evPos (by omega) ?_))
      have e3 : totalN [h] = 0 := by simp [totalN, hsafe, hd]
      have e4 : unsafeN [h] = [lowB h.f0] := by simp [unsafeN, lowN, hsafe, hd]
      have e5 : safeN [h] = [] := by simp [safeN, lowN, hsafe, hd]
      rw [e3, e4, e5, List.append_nil, Nat.add_zero] at ih'
      exact ih'
theorem snames_ev (l : List Hd) (hl : HOk l) : Ev (fun k => safe_Names.f k l) (snames l) := by
  have := snames_l0 l hl l [] rfl
  simpa [safe_Names.f, unsafeN, safeN, totalN, lowN] using this
theorem snames_sub (l : List Hd) : ∀ x ∈ snames l, x ∈ namesS l := by
  intro x hx
  rw [namesS_mem]
  have h1 : x ∈ unsafeN l ++ safeN l := by
    unfold snames at hx
    split at hx
    · exact (riseB_mem _ _).1 hx
    · exact List.mem_append_left _ ((riseB_mem _ _).1 hx)
  rcases List.mem_append.1 h1 with h1 | h1
  all_goals
    obtain ⟨h, hm, e⟩ := List.mem_map.1 h1
    exact ⟨h, (List.mem_filter.1 hm).1, e⟩
theorem snames_length (l : List Hd) : (snames l).length ≤ l.length := by
  have h : ∀ m : List Hd, (unsafeN m).length + (safeN m).length = m.length := by
    intro m
    simp only [unsafeN, safeN, lowN, List.length_map]
    induction m with
    | nil => rfl
    | cons a m ih =>
      cases ha : hsafe a with
      | true => simp [ha] at ih ⊢; omega
      | false => simp [ha] at ih ⊢; omega
  have h0 := h l
  unfold snames
  split
  · have := riseB_length (unsafeN l ++ safeN l)
    rw [List.length_append] at this
    omega
  · have := riseB_length (unsafeN l)
    omega

theorem awake7 : ∃ k, lockkeeperlaw7_awake.f k = some true := ⟨60, by decide +kernel⟩
theorem awake7_ev : Ev (fun k => lockkeeperlaw7_awake.f k) true := Ev.of lockkeeperlaw7_awake.mono awake7.choose_spec

/-! ### Text -/
theorem text_l0 (x : Int) (n : Nat) (hn : n ≤ 281474976710656) : ∀ (r i : Nat), i + r = n → Ev (fun k => lockkeeperlaw0_Text.l0 k x (List.replicate i x ++ List.replicate r 0) (i : Int)) (strOfNums (List.replicate n x)) := by
  intro r
  induction r with
  | zero =>
    intro i hi
    have : i = n := by omega
    subst this
    refine evSucc ?_
    simp only [lockkeeperlaw0_Text.l0]
    refine evNeg (by simp) (evEq (Ev.now _) (by simp))
  | succ r ih =>
    intro i hi
    have e2 : wrap64 ((i : Int) + 1) = ((i + 1 : Nat) : Int) := by unfold wrap64; omega
    refine evSucc ?_
    simp only [lockkeeperlaw0_Text.l0, e2]
    refine evPos (by simp; omega) (evPos (by omega) (evEq ?_ rfl))
    have e : (List.replicate i x ++ List.replicate (r + 1) 0).set ((i : Int).toNat) x = List.replicate (i + 1) x ++ List.replicate r 0 := by
      rw [Int.toNat_natCast, List.set_append_right _ _ (by simp)]
      simp only [List.length_replicate, Nat.sub_self]
      rw [List.replicate_succ (n := r), List.set_cons_zero, List.replicate_succ' (n := i), List.append_assoc]
      rfl
    rw [e]
    exact ih (i + 1) (by omega)
def repS (n : Nat) (c : UInt8) : ByteArray := bsOf (List.replicate n c)
theorem text_ev (n : Nat) (c : UInt8) (hn : n ≤ 281474976710656) : Ev (fun k => lockkeeperlaw0_Text.f k (n : Int) (c.toNat : Int)) (repS n c) := by
  unfold lockkeeperlaw0_Text.f
  have hm : mx (n : Int) 0 = n := by unfold mx; split <;> omega
  rw [hm]
  refine evPos (by omega) (evPos (by simpa using hn) ?_)
  have := text_l0 (c.toNat : Int) n hn n 0 (by omega)
  simp only [List.replicate_zero, List.nil_append] at this
  refine evEq this ?_
  have e := strOfNums_bytes (List.replicate n c)
  simpa [repS] using e
theorem repS_data (n : Nat) (c : UInt8) : (repS n c).data.toList = List.replicate n c := rfl
theorem repS_size (n : Nat) (c : UInt8) : (repS n c).size = n := by unfold repS; rw [size_bsOf, List.length_replicate]
theorem trim_none (l : Bs) (h : ∀ c ∈ l, isBl c = false) : trimL l = l := by
  have h1 : ∀ m : Bs, (∀ c ∈ m, isBl c = false) → m.dropWhile isBl = m := by
    intro m hm
    cases m with
    | nil => rfl
    | cons c m => simp [hm c (by simp)]
  unfold trimL trimR
  rw [h1 l h, h1 _ (fun c hc => h c (by simpa using hc)), List.reverse_reverse]
theorem trimS_none (s : ByteArray) (h : ∀ c ∈ s.data.toList, isBl c = false) : trimS s = s := by
  unfold trimS
  rw [trim_none _ h, bsOf_of]
theorem trimS_rep (n : Nat) (c : UInt8) (h : isBl c = false) : trimS (repS n c) = repS n c :=
  trimS_none _ fun d hd => by rw [repS_data] at hd; rw [List.eq_of_mem_replicate hd]; exact h
theorem bytesOf_rep (n : Nat) (c : UInt8) : bytesOf (repS n c) = List.replicate n (c.toNat : Int) := by
  simp [bytesOf, repS_data]
end Go.Proofs.Ytojcceafgkdchaa.Pr
