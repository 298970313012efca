/- Plain laws of the printed functions of chapter 1, for a seat without headers. -/
import Derived.Test.YtojcceafgkdchaaDoorP1
import Derived.Test.YtojcceafgkdchaaDoorPr1
import Derived.Test.YtojcceafgkdchaaDoorPr12
import Derived.Test.YtojcceafgkdchaaDoorPr4
import Derived.Test.YtojcceafgkdchaaDoorPr2
import Derived.Test.YtojcceafgkdchaaDoorPr10
namespace Go.Proofs.YtojcceafgkdchaaDoor.Pr
open Go.RowKit Go.Proofs.YtojcceafgkdchaaDoorW.PrintWords Go.Proofs.YtojcceafgkdchaaDoorW.PrintLast
set_option linter.unusedVariables false
set_option linter.unusedSimpArgs false

theorem evSucc {α : Type} {g : Nat → Option α} {r : α} (h : Ev (fun k => g (k + 1)) r) : Ev g r := Ev.step (fun _ => rfl) h
theorem evEq {α : Type} {g : Nat → Option α} {r r' : α} (h : Ev g r) (e : r = r') : Ev g r' := e ▸ h
theorem evPos {α : Type} {c : Prop} [Decidable c] {g h : Nat → Option α} {r : α} (hc : c) (hg : Ev g r) : Ev (fun k => if c then g k else h k) r := by
  simp only [if_pos hc]
  exact hg
theorem evNeg {α : Type} {c : Prop} [Decidable c] {g h : Nat → Option α} {r : α} (hc : ¬ c) (hg : Ev h r) : Ev (fun k => if c then g k else h k) r := by
  simp only [if_neg hc]
  exact hg
theorem evBind {α β : Type} {a : Option α} {x : α} {f : Nat → α → Option β} {r : β} (h : a = some x) (k : Ev (fun n => f n x) r) : Ev (fun n => a.bind (f n)) r := by
  subst h
  exact k
theorem evIte {α : Type} {c : Prop} [Decidable c] {g h : Nat → Option α} {r s : α} (hp : c → Ev g r) (hn : ¬ c → Ev h s) : Ev (fun k => if c then g k else h k) (if c then r else s) := by
  by_cases hc : c
  · rw [if_pos hc]; exact evPos hc (hp hc)
  · rw [if_neg hc]; exact evNeg hc (hn hc)
theorem trimL_length (l : Bs) : (trimL l).length ≤ l.length := by
  unfold trimL trimR
  have h1 := (List.dropWhile_sublist isBl (l := l)).length_le
  have h2 := (List.dropWhile_sublist isBl (l := (l.dropWhile isBl).reverse)).length_le
  simp only [List.length_reverse] at h2 ⊢
  omega
theorem trimS_size (s : ByteArray) : (trimS s).size ≤ s.size := by
  unfold trimS
  rw [size_bsOf, size_len]
  exact trimL_length _
def lowB (s : ByteArray) : ByteArray := bsOf (lowL s.data.toList)
theorem lowB_data (s : ByteArray) : (lowB s).data.toList = lowL s.data.toList := rfl
theorem lowB_size (s : ByteArray) : (lowB s).size = s.size := by
  unfold lowB lowL
  rw [size_bsOf, List.length_map, size_len]
theorem lowC_idem (c : UInt8) : lowC (lowC c) = lowC c := by
  unfold lowC
  by_cases h : 65 ≤ c ∧ c ≤ 90
  · rw [if_pos h]
    have h1 : ¬ (65 ≤ c + 32 ∧ c + 32 ≤ 90) := by
      have := c.toNat_lt
      simp only [UInt8.le_iff_toNat_le, UInt8.toNat_add, UInt8.toNat_ofNat] at h ⊢
      omega
    rw [if_neg h1]
  · rw [if_neg h, if_neg h]
theorem lowL_idem (l : Bs) : lowL (lowL l) = lowL l := by
  unfold lowL
  rw [List.map_map]
  exact List.map_congr_left fun c _ => lowC_idem c
theorem lowB_idem (s : ByteArray) : lowB (lowB s) = lowB s := by
  unfold lowB
  rw [bsOf_data, lowL_idem]
def flipD (t : Bool) (c : Int) : Int :=
  if 65 ≤ c ∧ c ≤ 90 then (if t then c + 32 else c)
  else if 97 ≤ c ∧ c ≤ 122 then (if t then c - 32 else c) else c
theorem flipD_all : ∀ t : Bool, ∀ n : Nat, n < 256 → lowC (UInt8.ofNat (flipD t (n : Int)).toNat) = lowC (UInt8.ofNat n) := by decide +kernel
theorem flip_lowC (b : Int) (i : Nat) (c : UInt8) : lowC (UInt8.ofNat (flipI b i (c.toNat : Int)).toNat) = lowC c := by
  have := flipD_all (b.toNat.testBit (i % 64)) c.toNat c.toNat_lt
  rw [UInt8.ofNat_toNat] at this
  exact this
theorem flip_lowL (s : ByteArray) (b : Int) : lowL (flipS s b).data.toList = lowL s.data.toList := by
  unfold flipS strOfNums lowL
  apply List.ext_getElem?
  intro i
  simp only [List.getElem?_map, List.getElem?_mapIdx, bytesOf]
  cases s.data.toList[i]? with
  | none => rfl
  | some c =>
    simp only [Option.map_some]
    rw [flip_lowC]
theorem flip_size (s : ByteArray) (b : Int) : (flipS s b).size = s.size := by
  have := congrArg List.length (flip_lowL s b)
  rwa [lowL, lowL, List.length_map, List.length_map, ← size_len, ← size_len] at this
theorem flip_lowB (s : ByteArray) (b : Int) : lowB (flipS s b) = lowB s := by
  unfold lowB
  rw [flip_lowL]
theorem flip_f (s : ByteArray) (b : Int) (hs : s.size ≤ 9223372036854775807) (hb : (Lit.int .u64 b).wf = true) : lockkeeperlaw0_Flip.f s b = some (flipS s b) := by
  unfold lockkeeperlaw0_Flip.f
  have h : IntKind.u64.min ≤ b ∧ b ≤ IntKind.u64.max := by simpa [Lit.wf] using hb
  rw [show IntKind.u64.min = 0 from rfl, show IntKind.u64.max = 18446744073709551615 from rfl] at h
  rw [if_pos ⟨hs, by omega, by omega⟩]
theorem rdOf_get (l : List ByteArray) (i : Nat) (h : i < l.length) : rdOf ByteArray.empty l (i : Int) = l[i] := by
  simp [rdOf, List.getD_eq_getElem?_getD, h]
theorem texts_l0 (l : List ByteArray) (hl : l.length ≤ 9223372036854775806) : ∀ (n i : Nat), i + n = l.length → Ev (fun k => lockkeeperlaw0_Texts.l0 k l l (i : Int)) true := by
  intro n
  induction n with
  | zero =>
    intro i hi
    refine evSucc ?_
    simp only [lockkeeperlaw0_Texts.l0]
    exact evNeg (by omega) (Ev.now _)
  | succ n ih =>
    intro i hi
    refine evSucc ?_
    simp only [lockkeeperlaw0_Texts.l0]
    have e2 : wrap64 ((i : Int) + 1) = ((i + 1 : Nat) : Int) := by unfold wrap64; omega
    rw [e2]
    exact evPos (by omega) (evPos (by omega) (evPos (by omega) (evPos (by simp) (ih (i + 1) (by omega)))))
theorem texts_refl (l : List ByteArray) (hl : l.length ≤ 9223372036854775806) : Ev (fun k => lockkeeperlaw0_Texts.f k l l) true := by
  unfold lockkeeperlaw0_Texts.f
  exact evPos rfl (by simpa using texts_l0 l hl l.length 0 (by omega))
def isDig (c : UInt8) : Bool := decide ((c.toNat : Int) ≥ 48) && decide ((c.toNat : Int) ≤ 57)
theorem digit_f (c : UInt8) : octet_digit.f (c.toNat : Int) = some (isDig c) := by
  unfold octet_digit.f isDig
  by_cases h : (c.toNat : Int) ≥ 48
  · rw [if_pos h]; simp only [h, decide_true, Bool.true_and]
  · rw [if_neg h]; simp only [h, decide_false, Bool.false_and]
def digStep (n : Int) (c : UInt8) : Int :=
  if n > (18446744073709551615 - (((c.toNat : Int) - 48) % 256)) / 10 then 18446744073709551615 else IntKind.u64.wrap ((IntKind.u64.wrap (n * 10)) + (((c.toNat : Int) - 48) % 256))
def digGo : Int → Bs → Option Int
  | n, [] => some n
  | n, c :: r => if isDig c = true then digGo (digStep n c) r else none
def digS (s : ByteArray) : Int × Bool := match digGo 0 s.data.toList with
  | some n => (n, s.data.toList != [])
  | none => (0, false)
theorem bt_mid (s : ByteArray) (p : Bs) (c : UInt8) (r : Bs) (h : s.data.toList = p ++ c :: r) : bt s (p.length : Int) = (c.toNat : Int) := by
  rw [bt_get s p.length (by rw [size_len, h]; simp), h]
  simp [List.getD_eq_getElem?_getD]
theorem digits_l0 (s : ByteArray) (hs : s.size ≤ 4611686018427387904) (r : Bs) : ∀ (p : Bs) (n : Int), s.data.toList = p ++ r → 
    Ev (fun k => octet_Digits.l0 k s n (s.size : Int) (p.length : Int)) (match digGo n r with | some n => (n, s.data.toList != []) | none => (0, false)) := by
  induction r with
  | nil =>
    intro p n hp
    have hl : s.size = p.length := by rw [size_len, hp]; simp
    refine evSucc ?_
    simp only [octet_Digits.l0]
    refine evNeg (by omega) (evEq (Ev.now _) ?_)
    rw [tl]
    rfl
  | cons c r ih =>
    intro p n hp
    have hl : s.size = p.length + (r.length + 1) := by rw [size_len, hp]; simp
    have hb := bt_mid s p c r hp
    have e2 : wrap64 ((p.length : Int) + 1) = ((p ++ [c]).length : Int) := by simp; unfold wrap64; omega
    refine evSucc ?_
    simp only [octet_Digits.l0, hb, e2]
    refine evPos (by omega) (evPos (by omega) (evPos (by omega) (evBind (digit_f c) ?_)))
    rw [digGo]
    cases hd : isDig c with
    | true =>
      refine evPos rfl ?_
      simp only [if_true]
      by_cases hg : n > (18446744073709551615 - (((c.toNat : Int) - 48) % 256)) / 10
      · refine evPos hg ?_
        have := ih (p ++ [c]) (digStep n c) (by simpa using hp)
        rw [show digStep n c = 18446744073709551615 by unfold digStep; rw [if_pos hg]] at this ⊢
        exact this
      · refine evNeg hg ?_
        have := ih (p ++ [c]) (digStep n c) (by simpa using hp)
        rw [show digStep n c = IntKind.u64.wrap ((IntKind.u64.wrap (n * 10)) + (((c.toNat : Int) - 48) % 256)) by unfold digStep; rw [if_neg hg]] at this ⊢
        exact this
    | false =>
      refine evNeg (by decide) (evEq (Ev.now _) ?_)
      simp
theorem digits_ev (s : ByteArray) (hs : s.size ≤ 4611686018427387904) : Ev (fun k => octet_Digits.f k s) (digS s) := by
  have := digits_l0 s hs s.data.toList [] 0 rfl
  simpa [octet_Digits.f, digS] using this
def isLet (c : UInt8) : Bool := (octet_letter.f (c.toNat : Int)).getD false
theorem letter_f (c : UInt8) : octet_letter.f (c.toNat : Int) = some (isLet c) := by
  unfold isLet octet_letter.f
  repeat' split
  all_goals rfl
def isMark (c : UInt8) : Bool := !(decide (Lib.indexByte ((⟨#[33, 35, 36, 37, 38, 39, 42, 43, 45, 46, 94, 95, 96, 124, 126]⟩ : ByteArray)).data.toList c < 0))
theorem mark_f (c : UInt8) : strings_IndexByte.f (⟨#[33, 35, 36, 37, 38, 39, 42, 43, 45, 46, 94, 95, 96, 124, 126]⟩ : ByteArray) (c.toNat : Int) = some (Lib.indexByte ((⟨#[33, 35, 36, 37, 38, 39, 42, 43, 45, 46, 94, 95, 96, 124, 126]⟩ : ByteArray)).data.toList c) := by
  unfold strings_IndexByte.f
  simp
def isTok (c : UInt8) : Bool := isLet c || isDig c || isMark c
def tokS (s : ByteArray) : Bool := s.data.toList.all isTok && s.data.toList != []
theorem token_l0 (s : ByteArray) (hs : s.size ≤ 4611686018427387904) (r : Bs) : ∀ (p : Bs), s.data.toList = p ++ r →
    Ev (fun k => octet_Token.l0 k s (s.size : Int) (p.length : Int)) (r.all isTok && s.data.toList != []) := by
  induction r with
  | nil =>
    intro p hp
    have hl : s.size = p.length := by rw [size_len, hp]; simp
    refine evSucc ?_
    simp only [octet_Token.l0]
    refine evNeg (by omega) (evEq (Ev.now _) ?_)
    rw [tl]
    simp
  | cons c r ih =>
    intro p hp
    have hl : s.size = p.length + (r.length + 1) := by rw [size_len, hp]; simp
    have hb := bt_mid s p c r hp
    have e2 : wrap64 ((p.length : Int) + 1) = ((p ++ [c]).length : Int) := by simp; unfold wrap64; omega
    have ih' := ih (p ++ [c]) (by simpa using hp)
    refine evSucc ?_
    simp only [octet_Token.l0, hb, e2]
    refine evPos (by omega) (evPos (by omega) (evPos (by omega) (evBind (letter_f c) ?_)))
    rw [List.all_cons]
    cases h1 : isLet c with
    | true => exact evPos rfl (evEq ih' (by simp [isTok, h1]))
    | false =>
      refine evNeg (by decide) (evBind (digit_f c) ?_)
      cases h2 : isDig c with
      | true => exact evPos rfl (evEq ih' (by simp [isTok, h2]))
      | false =>
        refine evNeg (by decide) (evBind (mark_f c) ?_)
        by_cases h3 : Lib.indexByte ((⟨#[33, 35, 36, 37, 38, 39, 42, 43, 45, 46, 94, 95, 96, 124, 126]⟩ : ByteArray)).data.toList c < 0
        · exact evPos h3 (evEq (Ev.now _) (by simp [isTok, h1, h2, isMark, h3]))
        · refine evNeg h3 (evEq ih' ?_)
          have : isTok c = true := by simp only [isTok, isMark, h3, decide_false, Bool.not_false, Bool.or_true]
          rw [this, Bool.true_and]
theorem token_ev (s : ByteArray) (hs : s.size ≤ 4611686018427387904) : Ev (fun k => octet_Token.f k s) (tokS s) := token_l0 s hs s.data.toList [] rfl
theorem text_l0 (x : Int) (n : Nat) (hn : n ≤ 281474976710656) : ∀ (r i : Nat), i + r = n → Ev (fun k => lockkeeperlaw0_Text.l0 k x (List.replicate i x ++ List.replicate r 0) (i : Int)) (strOfNums (List.replicate n x)) := by
  intro r
  induction r with
  | zero =>
    intro i hi
    have : i = n := by omega
    subst this
    refine evSucc ?_
    simp only [lockkeeperlaw0_Text.l0]
    refine evNeg (by simp) (evEq (Ev.now _) (by simp))
  | succ r ih =>
    intro i hi
    have e2 : wrap64 ((i : Int) + 1) = ((i + 1 : Nat) : Int) := by unfold wrap64; omega
    refine evSucc ?_
    simp only [lockkeeperlaw0_Text.l0, e2]
    refine evPos (by simp; omega) (evPos (by omega) (evEq ?_ rfl))
    have e : (List.replicate i x ++ List.replicate (r + 1) 0).set ((i : Int).toNat) x = List.replicate (i + 1) x ++ List.replicate r 0 := by
      rw [Int.toNat_natCast, List.set_append_right _ _ (by simp)]
      simp only [List.length_replicate, Nat.sub_self]
      rw [List.replicate_succ (n := r), List.set_cons_zero, List.replicate_succ' (n := i), List.append_assoc]
      rfl
    rw [e]
    exact ih (i + 1) (by omega)
def repS (n : Nat) (c : UInt8) : ByteArray := bsOf (List.replicate n c)
theorem text_ev (n : Nat) (c : UInt8) (hn : n ≤ 281474976710656) : Ev (fun k => lockkeeperlaw0_Text.f k (n : Int) (c.toNat : Int)) (repS n c) := by
  unfold lockkeeperlaw0_Text.f
  have hm : mx (n : Int) 0 = n := by unfold mx; split <;> omega
  rw [hm]
  refine evPos (by omega) (evPos (by simpa using hn) ?_)
  have := text_l0 (c.toNat : Int) n hn n 0 (by omega)
  simp only [List.replicate_zero, List.nil_append] at this
  refine evEq this ?_
  have e := strOfNums_bytes (List.replicate n c)
  simpa [repS] using e
theorem repS_data (n : Nat) (c : UInt8) : (repS n c).data.toList = List.replicate n c := rfl
theorem repS_size (n : Nat) (c : UInt8) : (repS n c).size = n := by unfold repS; rw [size_bsOf, List.length_replicate]
theorem trim_none (l : Bs) (h : ∀ c ∈ l, isBl c = false) : trimL l = l := by
  have h1 : ∀ m : Bs, (∀ c ∈ m, isBl c = false) → m.dropWhile isBl = m := by
    intro m hm
    cases m with
    | nil => rfl
    | cons c m => simp [hm c (by simp)]
  unfold trimL trimR
  rw [h1 l h, h1 _ (fun c hc => h c (by simpa using hc)), List.reverse_reverse]
theorem trimS_none (s : ByteArray) (h : ∀ c ∈ s.data.toList, isBl c = false) : trimS s = s := by
  unfold trimS
  rw [trim_none _ h, bsOf_of]
theorem trimS_rep (n : Nat) (c : UInt8) (h : isBl c = false) : trimS (repS n c) = repS n c :=
  trimS_none _ fun d hd => by rw [repS_data] at hd; rw [List.eq_of_mem_replicate hd]; exact h
theorem bytesOf_rep (n : Nat) (c : UInt8) : bytesOf (repS n c) = List.replicate n (c.toNat : Int) := by
  simp [bytesOf, repS_data]
theorem indexByte_at (p r : Bs) (c : UInt8) (h : c ∉ p) : Lib.indexByte (p ++ c :: r) c = (p.length : Int) := by
  induction p with
  | nil => simp [Lib.indexByte]
  | cons b p ih =>
    have hb : (b == c) = false := by
      simp only [beq_eq_false_iff_ne]
      intro e
      exact h (by simp [e])
    have := ih (fun hc => h (by simp [hc]))
    rw [List.cons_append, Lib.indexByte, hb, this]
    have h2 : (((p.length : Int)) == -1) = false := by
      simp only [beq_eq_false_iff_ne]
      omega
    rw [h2]
    simp
theorem indexByte_not (p : Bs) (c : UInt8) (h : c ∉ p) : Lib.indexByte p c = -1 := by
  induction p with
  | nil => rfl
  | cons b p ih =>
    have hb : (b == c) = false := by
      simp only [beq_eq_false_iff_ne]
      intro e
      exact h (by simp [e])
    have := ih (fun hc => h (by simp [hc]))
    rw [Lib.indexByte, hb, this]
    simp
def numL (n : Nat) : Bs := if h : n > 9 then numL (n / 10) ++ [UInt8.ofNat (48 + n % 10)] else [UInt8.ofNat (48 + n)]
termination_by n
decreasing_by omega
theorem numL_great {n : Nat} (h : n > 9) : numL n = numL (n / 10) ++ [UInt8.ofNat (48 + n % 10)] := by
  rw [numL, dif_pos h]
theorem numL_small {n : Nat} (h : ¬ n > 9) : numL n = [UInt8.ofNat (48 + n)] := by
  rw [numL, dif_neg h]
theorem numL_length : ∀ (k n : Nat), n < 10 ^ (k + 1) → (numL n).length ≤ k + 1 := by
  intro k
  induction k with
  | zero =>
    intro n h
    rw [numL_small (by omega)]
    simp
  | succ k ih =>
    intro n h
    by_cases h9 : n > 9
    · rw [numL_great h9]
      have := ih (n / 10) (by rw [Nat.pow_succ] at h; omega)
      simp
      omega
    · rw [numL_small h9]
      simp
theorem numL_ne (n : Nat) : numL n ≠ [] := by
  by_cases h9 : n > 9
  · rw [numL_great h9]; simp
  · rw [numL_small h9]; simp
def isNum (c : UInt8) : Prop := 48 ≤ c.toNat ∧ c.toNat ≤ 57
theorem num_char (d : Nat) (h : d < 10) : (UInt8.ofNat (48 + d)).toNat = 48 + d := by
  rw [UInt8.toNat_ofNat']
  omega
theorem numL_chars (n : Nat) : ∀ c ∈ numL n, isNum c := by
  induction n using Nat.strongRecOn with
  | _ n ih =>
    intro c hc
    by_cases h9 : n > 9
    · rw [numL_great h9] at hc
      rcases List.mem_append.1 hc with hc | hc
      · exact ih (n / 10) (by omega) c hc
      · rw [List.mem_singleton.1 hc]
        unfold isNum
        rw [num_char _ (by omega)]
        omega
    · rw [numL_small h9] at hc
      rw [List.mem_singleton.1 hc]
      unfold isNum
      rw [num_char _ (by omega)]
      omega
theorem ten_piece (d : Nat) (h : d < 10) : ((⟨#[48, 49, 50, 51, 52, 53, 54, 55, 56, 57]⟩ : ByteArray)).extract d (d + 1) = bsOf [UInt8.ofNat (48 + d)] := by
  have : ∀ e : Fin 10, (((⟨#[48, 49, 50, 51, 52, 53, 54, 55, 56, 57]⟩ : ByteArray)).extract e.val (e.val + 1)).data.toList = [UInt8.ofNat (48 + e.val)] := by decide +kernel
  exact ba_ext (this ⟨d, h⟩)
theorem u64_wrap (n : Nat) (h : n < 18446744073709551616) : IntKind.u64.wrap (n : Int) = n := by
  rw [show IntKind.u64.wrap (n : Int) = (n : Int) % 18446744073709551616 by simp [IntKind.wrap, IntKind.bits, IntKind.signed]]
  omega
theorem num_l0 (n : Nat) : ∀ x : ByteArray, n < 18446744073709551616 → x.size + (numL n).length ≤ 9223372036854775807 → Ev (fun k => lockkeeperref1_Num.l0 k (n : Int) x) (bsOf (numL n ++ x.data.toList)) := by
  induction n using Nat.strongRecOn with
  | _ n ih =>
    intro x hn hx
    have piece : ∀ d : Nat, d < 10 → ((⟨#[48, 49, 50, 51, 52, 53, 54, 55, 56, 57]⟩ : ByteArray)).extract ((d : Int)).toNat (IntKind.u64.wrap ((d : Int) + 1)).toNat = bsOf [UInt8.ofNat (48 + d)] := by
      intro d hd
      rw [show ((d : Int) + 1) = ((d + 1 : Nat) : Int) by omega, u64_wrap _ (by omega), Int.toNat_natCast, Int.toNat_natCast]
      exact ten_piece d hd
    have psz : ∀ d : Nat, (bsOf [UInt8.ofNat (48 + d)]).size = 1 := fun d => rfl
    have pw : ∀ d : Nat, d < 10 → IntKind.u64.wrap ((d : Int) + 1) = ((d + 1 : Nat) : Int) := by
      intro d hd
      rw [show ((d : Int) + 1) = ((d + 1 : Nat) : Int) by omega, u64_wrap _ (by omega)]
    refine evSucc ?_
    simp only [lockkeeperref1_Num.l0]
    by_cases h9 : n > 9
    · have e1 : Int.tmod (n : Int) 10 = ((n % 10 : Nat) : Int) := by rw [Int.tmod_eq_emod_of_nonneg (by omega)]; omega
      have e2 : IntKind.u64.wrap (Int.tdiv (n : Int) 10) = ((n / 10 : Nat) : Int) := by
        rw [show Int.tdiv (n : Int) 10 = ((n / 10 : Nat) : Int) by rw [Int.tdiv_eq_ediv_of_nonneg (by omega)]; omega, u64_wrap _ (by omega)]
      rw [e1, e2, piece (n % 10) (by omega), psz, pw _ (by omega)]
      have hl1 : (numL n).length ≥ 1 := List.length_pos_iff.2 (numL_ne n)
      refine evPos (by omega) (evPos (by omega) (evPos (by omega) (evPos (by omega) (evPos (by omega) ?_))))
      have hsz : (bsOf [UInt8.ofNat (48 + n % 10)] ++ x).size = 1 + x.size := by rw [ByteArray.size_append, psz]
      have hl : (numL n).length = (numL (n / 10)).length + 1 := by rw [numL_great h9]; simp
      have := ih (n / 10) (by omega) (bsOf [UInt8.ofNat (48 + n % 10)] ++ x) (by omega) (by omega)
      refine evEq this ?_
      rw [append_list, bsOf_data, numL_great h9]
      simp
    · have hl1 : (numL n).length ≥ 1 := List.length_pos_iff.2 (numL_ne n)
      rw [piece n (by omega), psz, pw _ (by omega)]
      refine evNeg (by omega) (evPos (by omega) (evPos (by omega) (evPos (by omega) (evPos (by omega) ?_))))
      refine evEq (Ev.now _) ?_
      apply ba_ext
      rw [append_list, bsOf_data, bsOf_data, numL_small h9]
theorem num_ev (n : Nat) (hn : n < 18446744073709551616) : Ev (fun k => lockkeeperref1_Num.f k (n : Int)) (bsOf (numL n)) := by
  have hl := numL_length 19 n (by omega)
  have := num_l0 n (⟨#[]⟩ : ByteArray) hn (by rw [show (⟨#[]⟩ : ByteArray).size = 0 from rfl]; omega)
  simpa [lockkeeperref1_Num.f] using this
theorem digGo_append (xs : Bs) (c : UInt8) : ∀ n, digGo n (xs ++ [c]) = (digGo n xs).bind fun v => if isDig c = true then some (digStep v c) else none := by
  induction xs with
  | nil =>
    intro n
    simp [digGo]
  | cons x xs ih =>
    intro n
    rw [List.cons_append, digGo, digGo]
    cases isDig x with
    | true => simpa using ih (digStep n x)
    | false => simp
theorem dig_num (d : Nat) (h : d < 10) : isDig (UInt8.ofNat (48 + d)) = true := by
  unfold isDig
  rw [num_char d h]
  simp
  omega
theorem digStep_num (v d : Nat) (h : d < 10) (hv : v * 10 + d < 18446744073709551616) : digStep (v : Int) (UInt8.ofNat (48 + d)) = ((v * 10 + d : Nat) : Int) := by
  unfold digStep
  rw [num_char d h]
  have e1 : ((((48 + d : Nat) : Int) - 48) % 256) = d := by omega
  rw [e1, if_neg (by omega), show ((v : Int) * 10) = ((v * 10 : Nat) : Int) by omega, u64_wrap _ (by omega), show (((v * 10 : Nat) : Int) + (d : Int)) = ((v * 10 + d : Nat) : Int) by omega, u64_wrap _ (by omega)]
theorem digGo_num (n : Nat) : n < 18446744073709551616 → digGo 0 (numL n) = some (n : Int) := by
  induction n using Nat.strongRecOn with
  | _ n ih =>
    intro hn
    by_cases h9 : n > 9
    · rw [numL_great h9, digGo_append, ih (n / 10) (by omega) (by omega)]
      simp only [Option.bind_some]
      rw [if_pos (dig_num _ (by omega)), digStep_num _ _ (by omega) (by omega)]
      congr 2
      omega
    · rw [numL_small h9, digGo, if_pos (dig_num n (by omega))]
      have := digStep_num 0 n (by omega) (by omega)
      rw [show ((0 : Nat) : Int) = 0 from rfl] at this
      rw [this, digGo]
      congr 2
      omega
theorem digGo_zeros (z : Nat) (l : Bs) : digGo 0 (List.replicate z 48 ++ l) = digGo 0 l := by
  induction z with
  | zero => rfl
  | succ z ih =>
    rw [List.replicate_succ, List.cons_append, digGo, if_pos (by decide), show digStep 0 48 = 0 by decide]
    exact ih
def digL (l : Bs) : Int × Bool := match digGo 0 l with
  | some n => (n, l != [])
  | none => (0, false)
theorem digS_L (s : ByteArray) : digS s = digL s.data.toList := rfl
theorem digL_num (z n : Nat) (hn : n < 18446744073709551616) : digL (List.replicate z 48 ++ numL n) = ((n : Int), true) := by
  unfold digL
  rw [digGo_zeros, digGo_num n hn]
  have : (List.replicate z 48 ++ numL n) ≠ [] := by simp [numL_ne n]
  simp [this, numL_ne n]
theorem digL_nil : digL [] = (0, false) := rfl
theorem foldB_refl (a : ByteArray) : foldB a a = true := by simp [foldB]
theorem foldB_eq (a b : ByteArray) : foldB a b = true ↔ lowL a.data.toList = lowL b.data.toList := by simp [foldB]
theorem low_f (a n : Int) (ha : (Lit.int .i64 a).wf = true) (h1 : 1 ≤ n) (h2 : n ≤ 9223372036854775807) : ∃ r, lockkeeperlaw0_Low.f a n = some r ∧ 0 ≤ r ∧ r < n := by
  have hn : IntKind.u64.wrap n = n := by
    rw [show IntKind.u64.wrap n = n % 18446744073709551616 by simp [IntKind.wrap, IntKind.bits, IntKind.signed]]
    omega
  have ha' : 0 ≤ IntKind.u64.wrap a := by
    rw [show IntKind.u64.wrap a = a % 18446744073709551616 by simp [IntKind.wrap, IntKind.bits, IntKind.signed]]
    omega
  unfold lockkeeperlaw0_Low.f
  rw [hn, if_neg (by omega)]
  have e : Int.tmod (IntKind.u64.wrap a) n = IntKind.u64.wrap a % n := Int.tmod_eq_emod_of_nonneg ha'
  have h3 : 0 ≤ IntKind.u64.wrap a % n := Int.emod_nonneg _ (by omega)
  have h4 : IntKind.u64.wrap a % n < n := Int.emod_lt_of_pos _ (by omega)
  refine ⟨IntKind.u64.wrap a % n, ?_, h3, h4⟩
  rw [e]
  congr 1
  unfold wrap64
  omega
theorem awake1 : ∃ k, lockkeeperlaw1_awake.f k = some true := ⟨60, by decide +kernel⟩
theorem awake1_ev : Ev (fun k => lockkeeperlaw1_awake.f k) true := Ev.of lockkeeperlaw1_awake.mono awake1.choose_spec
end Go.Proofs.YtojcceafgkdchaaDoor.Pr
