/- Plain laws of texts, numbers and rows that chapters 3 and 4 want. -/
import Derived.Test.YtbfbidifodcedaaDoorG4
import Derived.Test.YtbfbidifodcedaaDoorG5
import Derived.Test.YtbfbidifodcedaaDoorPr3
import Derived.Test.YtbfbidifodcedaaDoorPr4
import Derived.Test.YtbfbidifodcedaaDoorPr8
import Derived.Test.YtbfbidifodcedaaDoorPr12
import Derived.Test.YtbfbidifodcedaaDoorPr15
import Derived.Test.YtbfbidifodcedaaDoorPr27
namespace Go.Proofs.YtbfbidifodcedaaDoor.Pr
open Go.RowKit Go.Proofs.YtbfbidifodcedaaDoorW.PrintWords Go.Proofs.YtbfbidifodcedaaDoorW.PrintLast
set_option linter.unusedVariables false
set_option linter.unusedSimpArgs false
abbrev Bs := List UInt8
theorem tl (s : ByteArray) : s.toList = s.data.toList := ByteArray.toList_eq s
theorem ba_ext {a b : ByteArray} (h : a.data.toList = b.data.toList) : a = b := by
  rw [← bsOf_of a, ← bsOf_of b, h]
theorem tl_eq (a b : ByteArray) : (a.toList = b.toList) ↔ a = b := by
  rw [tl, tl]
  exact ⟨ba_ext, fun h => by rw [h]⟩
theorem tl_beq (a b : ByteArray) : (a.toList == b.toList) = (a.data.toList == b.data.toList) := by rw [tl, tl]
theorem size_len (s : ByteArray) : s.size = s.data.toList.length := (data_length s).symm
theorem size_bsOf (l : Bs) : (bsOf l).size = l.length := by rw [size_len]; rfl
theorem bsOf_inj {a b : Bs} (h : bsOf a = bsOf b) : a = b := by
  have := congrArg (fun s : ByteArray => s.data.toList) h
  simpa [bsOf] using this
theorem extract_list (s : ByteArray) (a b : Nat) : (s.extract a b).data.toList = (s.data.toList.take b).drop a := by
  simp [List.drop_take]
theorem append_list (s t : ByteArray) : (s ++ t).data.toList = s.data.toList ++ t.data.toList := by simp
theorem bt_get (s : ByteArray) (i : Nat) (h : i < s.size) : bt s (i : Int) = ((s.data.toList.getD i 0).toNat : Int) := by
  have h' : i < s.data.toList.length := by rw [← size_len]; exact h
  unfold bt
  rw [dif_pos (by simpa using h), List.getD_eq_getElem?_getD, List.getElem?_eq_getElem h']
  simp
  rfl
def lowC (c : UInt8) : UInt8 := if 65 ≤ c ∧ c ≤ 90 then c + 32 else c
def lowL (l : Bs) : Bs := l.map lowC
theorem strOfNums_bytes (l : Bs) : strOfNums (l.map fun b => (b.toNat : Int)) = bsOf l := by
  unfold strOfNums bsOf
  congr 1
  congr 1
  rw [List.map_map]
  conv => rhs; rw [← List.map_id l]
  apply List.map_congr_left
  intro b _
  simp
theorem lowI_lowC (c : UInt8) : lowI (c.toNat : Int) = ((lowC c).toNat : Int) := by
  unfold lowI lowC
  have hc := c.toNat_lt
  simp only [UInt8.le_iff_toNat_le, UInt8.toNat_ofNat]
  by_cases h : 65 ≤ c.toNat ∧ c.toNat ≤ 90
  · rw [if_pos (by omega), if_pos (by simpa using h)]
    simp [UInt8.toNat_add]
    omega
  · rw [if_neg (by omega), if_neg (by simpa using h)]
theorem lowS_eq (s : ByteArray) : lowS s = bsOf (lowL s.data.toList) := by
  unfold lowS lowL
  rw [← strOfNums_bytes]
  congr 1
  apply List.ext_getElem?
  intro i
  simp only [bytesOf, List.getElem?_mapIdx, List.getElem?_map]
  cases s.data.toList[i]? with
  | none => rfl
  | some c => simp [lowI_lowC]
theorem lower_f (s : ByteArray) (h : s.size ≤ 9223372036854775807) : octet_Lower.f s = some (bsOf (lowL s.data.toList)) := by
  unfold octet_Lower.f
  rw [if_pos h, lowS_eq]
def longS : Int → List ByteArray → Bool
  | _, [] => false
  | n, s :: r => if (s.size : Int) ≥ n then true else longS (n - s.size - 1) r
theorem long_l0 (r : List ByteArray) : ∀ (p : List ByteArray) (n : Int), 0 ≤ n → n ≤ 4611686018427387904 → (p ++ r).length ≤ 9223372036854775806 → Ev (fun k => lockkeeperlaw0_Long.l0 k n (p ++ r) (p.length : Int)) (longS n r) := by
  induction r with
  | nil =>
    intro p n _ _ _
    refine Ev.step (f := fun _ => some false) (fun k => ?_) (Ev.now _)
    simp only [lockkeeperlaw0_Long.l0]
    rw [if_neg (by simp)]
  | cons s r ih =>
    intro p n h0 hn hl
    have hr : rdOf ByteArray.empty (p ++ s :: r) (p.length : Int) = s := by simp [rdOf, List.getD_eq_getElem?_getD]
    have hlen : (p ++ s :: r).length = p.length + (r.length + 1) := by simp
    by_cases h : (s.size : Int) ≥ n
    · refine Ev.step (f := fun _ => some true) (fun k => ?_) (by rw [longS, if_pos h]; exact Ev.now _)
      simp only [lockkeeperlaw0_Long.l0]
      rw [if_pos (by omega), if_pos (by omega), hr, if_pos h]
    · refine Ev.step (f := fun k => lockkeeperlaw0_Long.l0 k (n - s.size - 1) ((p ++ [s]) ++ r) ((p ++ [s]).length : Int)) (fun k => ?_) ?_
      · simp only [lockkeeperlaw0_Long.l0]
        rw [if_pos (by omega), if_pos (by omega), hr, if_neg h]
        have e1 : wrap64 (wrap64 (n - (s.size : Int)) - 1) = n - s.size - 1 := by unfold wrap64; omega
        have e2 : wrap64 ((p.length : Int) + 1) = ((p ++ [s]).length : Int) := by simp; unfold wrap64; omega
        rw [e1, e2]
        simp
      · rw [longS, if_neg h]
        exact ih (p ++ [s]) _ (by omega) (by omega) (by simpa using hl)
theorem long_ev (n : Int) (l : List ByteArray) (h0 : 0 ≤ n) (hn : n ≤ 4611686018427387904) (hl : l.length ≤ 9223372036854775806) : Ev (fun k => lockkeeperlaw0_Long.f k n l) (longS n l) := by
  have := long_l0 l [] n h0 hn (by simpa using hl)
  simpa [lockkeeperlaw0_Long.f] using this
theorem longS_size : ∀ (l : List ByteArray) (n : Int), longS n l = false → ∀ s ∈ l, (s.size : Int) < n := by
  intro l
  induction l with
  | nil => intro n _ s hs; cases hs
  | cons a r ih =>
    intro n h s hs
    rw [longS] at h
    by_cases ha : (a.size : Int) ≥ n
    · rw [if_pos ha] at h; cases h
    · rw [if_neg ha] at h
      rcases List.mem_cons.1 hs with rfl | hs
      · omega
      · have := ih _ h s hs
        omega
theorem evSucc {α : Type} {g : Nat → Option α} {r : α} (h : Ev (fun k => g (k + 1)) r) : Ev g r := Ev.step (fun _ => rfl) h
theorem evEq {α : Type} {g : Nat → Option α} {r r' : α} (h : Ev g r) (e : r = r') : Ev g r' := e ▸ h
theorem evPos {α : Type} {c : Prop} [Decidable c] {g h : Nat → Option α} {r : α} (hc : c) (hg : Ev g r) : Ev (fun k => if c then g k else h k) r := by
  simp only [if_pos hc]
  exact hg
theorem evNeg {α : Type} {c : Prop} [Decidable c] {g h : Nat → Option α} {r : α} (hc : ¬ c) (hg : Ev h r) : Ev (fun k => if c then g k else h k) r := by
  simp only [if_neg hc]
  exact hg
theorem evBind {α β : Type} {a : Option α} {x : α} {f : Nat → α → Option β} {r : β} (h : a = some x) (k : Ev (fun n => f n x) r) : Ev (fun n => a.bind (f n)) r := by
  subst h
  exact k
theorem evIte {α : Type} {c : Prop} [Decidable c] {g h : Nat → Option α} {r s : α} (hp : c → Ev g r) (hn : ¬ c → Ev h s) : Ev (fun k => if c then g k else h k) (if c then r else s) := by
  by_cases hc : c
  · rw [if_pos hc]; exact evPos hc (hp hc)
  · rw [if_neg hc]; exact evNeg hc (hn hc)
def lowB (s : ByteArray) : ByteArray := bsOf (lowL s.data.toList)
theorem lowB_data (s : ByteArray) : (lowB s).data.toList = lowL s.data.toList := rfl
theorem lowB_size (s : ByteArray) : (lowB s).size = s.size := by
  unfold lowB lowL
  rw [size_bsOf, List.length_map, size_len]
theorem lowC_idem (c : UInt8) : lowC (lowC c) = lowC c := by
  unfold lowC
  by_cases h : 65 ≤ c ∧ c ≤ 90
  · rw [if_pos h]
    have h1 : ¬ (65 ≤ c + 32 ∧ c + 32 ≤ 90) := by
      have := c.toNat_lt
      simp only [UInt8.le_iff_toNat_le, UInt8.toNat_add, UInt8.toNat_ofNat] at h ⊢
      omega
    rw [if_neg h1]
  · rw [if_neg h, if_neg h]
theorem lowL_idem (l : Bs) : lowL (lowL l) = lowL l := by
  unfold lowL
  rw [List.map_map]
  exact List.map_congr_left fun c _ => lowC_idem c
theorem lowB_idem (s : ByteArray) : lowB (lowB s) = lowB s := by
  unfold lowB
  rw [bsOf_data, lowL_idem]
def flipD (t : Bool) (c : Int) : Int :=
  if 65 ≤ c ∧ c ≤ 90 then (if t then c + 32 else c)
  else if 97 ≤ c ∧ c ≤ 122 then (if t then c - 32 else c) else c
theorem flipD_all : ∀ t : Bool, ∀ n : Nat, n < 256 → lowC (UInt8.ofNat (flipD t (n : Int)).toNat) = lowC (UInt8.ofNat n) := by decide +kernel
theorem flip_lowC (b : Int) (i : Nat) (c : UInt8) : lowC (UInt8.ofNat (flipI b i (c.toNat : Int)).toNat) = lowC c := by
  have := flipD_all (b.toNat.testBit (i % 64)) c.toNat c.toNat_lt
  rw [UInt8.ofNat_toNat] at this
  exact this
theorem flip_lowL (s : ByteArray) (b : Int) : lowL (flipS s b).data.toList = lowL s.data.toList := by
  unfold flipS strOfNums lowL
  apply List.ext_getElem?
  intro i
  simp only [List.getElem?_map, List.getElem?_mapIdx, bytesOf]
  cases s.data.toList[i]? with
  | none => rfl
  | some c =>
    simp only [Option.map_some]
    rw [flip_lowC]
theorem flip_size (s : ByteArray) (b : Int) : (flipS s b).size = s.size := by
  have := congrArg List.length (flip_lowL s b)
  rwa [lowL, lowL, List.length_map, List.length_map, ← size_len, ← size_len] at this
theorem flip_lowB (s : ByteArray) (b : Int) : lowB (flipS s b) = lowB s := by
  unfold lowB
  rw [flip_lowL]
theorem flip_f (s : ByteArray) (b : Int) (hs : s.size ≤ 9223372036854775807) (hb : (Lit.int .u64 b).wf = true) : lockkeeperlaw0_Flip.f s b = some (flipS s b) := by
  unfold lockkeeperlaw0_Flip.f
  have h : IntKind.u64.min ≤ b ∧ b ≤ IntKind.u64.max := by simpa [Lit.wf] using hb
  rw [show IntKind.u64.min = 0 from rfl, show IntKind.u64.max = 18446744073709551615 from rfl] at h
  rw [if_pos ⟨hs, by omega, by omega⟩]
theorem rdOf_get (l : List ByteArray) (i : Nat) (h : i < l.length) : rdOf ByteArray.empty l (i : Int) = l[i] := by
  simp [rdOf, List.getD_eq_getElem?_getD, h]
def isDig (c : UInt8) : Bool := decide ((c.toNat : Int) ≥ 48) && decide ((c.toNat : Int) ≤ 57)
theorem digit_f (c : UInt8) : octet_digit.f (c.toNat : Int) = some (isDig c) := by
  unfold octet_digit.f isDig
  by_cases h : (c.toNat : Int) ≥ 48
  · rw [if_pos h]; simp only [h, decide_true, Bool.true_and]
  · rw [if_neg h]; simp only [h, decide_false, Bool.false_and]
def digStep (n : Int) (c : UInt8) : Int :=
  if n > (18446744073709551615 - (((c.toNat : Int) - 48) % 256)) / 10 then 18446744073709551615 else IntKind.u64.wrap ((IntKind.u64.wrap (n * 10)) + (((c.toNat : Int) - 48) % 256))
def digGo : Int → Bs → Option Int
  | n, [] => some n
  | n, c :: r => if isDig c = true then digGo (digStep n c) r else none
def digS (s : ByteArray) : Int × Bool := match digGo 0 s.data.toList with
  | some n => (n, s.data.toList != [])
  | none => (0, false)
theorem bt_mid (s : ByteArray) (p : Bs) (c : UInt8) (r : Bs) (h : s.data.toList = p ++ c :: r) : bt s (p.length : Int) = (c.toNat : Int) := by
  rw [bt_get s p.length (by rw [size_len, h]; simp), h]
  simp [List.getD_eq_getElem?_getD]
theorem digits_l0 (s : ByteArray) (hs : s.size ≤ 4611686018427387904) (r : Bs) : ∀ (p : Bs) (n : Int), s.data.toList = p ++ r → 
    Ev (fun k => octet_Digits.l0 k s n (s.size : Int) (p.length : Int)) (match digGo n r with | some n => (n, s.data.toList != []) | none => (0, false)) := by
  induction r with
  | nil =>
    intro p n hp
    have hl : s.size = p.length := by rw [size_len, hp]; simp
    refine evSucc ?_
    simp only [octet_Digits.l0]
    refine evNeg (by omega) (evEq (Ev.now _) ?_)
    rw [tl]
    rfl
  | cons c r ih =>
    intro p n hp
    have hl : s.size = p.length + (r.length + 1) := by rw [size_len, hp]; simp
    have hb := bt_mid s p c r hp
    have e2 : wrap64 ((p.length : Int) + 1) = ((p ++ [c]).length : Int) := by simp; unfold wrap64; omega
    refine evSucc ?_
    simp only [octet_Digits.l0, hb, e2]
    refine evPos (by omega) (evPos (by omega) (evPos (by omega) (evBind (digit_f c) ?_)))
    rw [digGo]
    cases hd : isDig c with
    | true =>
      refine evPos rfl ?_
      simp only [if_true]
      by_cases hg : n > (18446744073709551615 - (((c.toNat : Int) - 48) % 256)) / 10
      · refine evPos hg ?_
        have := ih (p ++ [c]) (digStep n c) (by simpa using hp)
        rw [show digStep n c = 18446744073709551615 by unfold digStep; rw [if_pos hg]] at this ⊢
        exact this
      · refine evNeg hg ?_
        have := ih (p ++ [c]) (digStep n c) (by simpa using hp)
        rw [show digStep n c = IntKind.u64.wrap ((IntKind.u64.wrap (n * 10)) + (((c.toNat : Int) - 48) % 256)) by unfold digStep; rw [if_neg hg]] at this ⊢
        exact this
    | false =>
      refine evNeg (by decide) (evEq (Ev.now _) ?_)
      simp
theorem digits_ev (s : ByteArray) (hs : s.size ≤ 4611686018427387904) : Ev (fun k => octet_Digits.f k s) (digS s) := by
  have := digits_l0 s hs s.data.toList [] 0 rfl
  simpa [octet_Digits.f, digS] using this
theorem text_l0 (x : Int) (n : Nat) (hn : n ≤ 281474976710656) : ∀ (r i : Nat), i + r = n → Ev (fun k => lockkeeperlaw0_Text.l0 k x (List.replicate i x ++ List.replicate r 0) (i : Int)) (strOfNums (List.replicate n x)) := by
  intro r
  induction r with
  | zero =>
    intro i hi
    have : i = n := by omega
    subst this
    refine evSucc ?_
    simp only [lockkeeperlaw0_Text.l0]
    refine evNeg (by simp) (evEq (Ev.now _) (by simp))
  | succ r ih =>
    intro i hi
    have e2 : wrap64 ((i : Int) + 1) = ((i + 1 : Nat) : Int) := by unfold wrap64; omega
    refine evSucc ?_
    simp only [lockkeeperlaw0_Text.l0, e2]
    refine evPos (by simp; omega) (evPos (by omega) (evEq ?_ rfl))
    have e : (List.replicate i x ++ List.replicate (r + 1) 0).set ((i : Int).toNat) x = List.replicate (i + 1) x ++ List.replicate r 0 := by
      rw [Int.toNat_natCast, List.set_append_right _ _ (by simp)]
      simp only [List.length_replicate, Nat.sub_self]
      rw [List.replicate_succ (n := r), List.set_cons_zero, List.replicate_succ' (n := i), List.append_assoc]
      rfl
    rw [e]
    exact ih (i + 1) (by omega)
def repS (n : Nat) (c : UInt8) : ByteArray := bsOf (List.replicate n c)
theorem text_ev (n : Nat) (c : UInt8) (hn : n ≤ 281474976710656) : Ev (fun k => lockkeeperlaw0_Text.f k (n : Int) (c.toNat : Int)) (repS n c) := by
  unfold lockkeeperlaw0_Text.f
  have hm : mx (n : Int) 0 = n := by unfold mx; split <;> omega
  rw [hm]
  refine evPos (by omega) (evPos (by simpa using hn) ?_)
  have := text_l0 (c.toNat : Int) n hn n 0 (by omega)
  simp only [List.replicate_zero, List.nil_append] at this
  refine evEq this ?_
  have e := strOfNums_bytes (List.replicate n c)
  simpa [repS] using e
theorem repS_data (n : Nat) (c : UInt8) : (repS n c).data.toList = List.replicate n c := rfl
theorem repS_size (n : Nat) (c : UInt8) : (repS n c).size = n := by unfold repS; rw [size_bsOf, List.length_replicate]
theorem bytesOf_rep (n : Nat) (c : UInt8) : bytesOf (repS n c) = List.replicate n (c.toNat : Int) := by
  simp [bytesOf, repS_data]
theorem indexByte_at (p r : Bs) (c : UInt8) (h : c ∉ p) : Lib.indexByte (p ++ c :: r) c = (p.length : Int) := by
  induction p with
  | nil => simp [Lib.indexByte]
  | cons b p ih =>
    have hb : (b == c) = false := by
      simp only [beq_eq_false_iff_ne]
      intro e
      exact h (by simp [e])
    have := ih (fun hc => h (by simp [hc]))
    rw [List.cons_append, Lib.indexByte, hb, this]
    have h2 : (((p.length : Int)) == -1) = false := by
      simp only [beq_eq_false_iff_ne]
      omega
    rw [h2]
    simp
theorem indexByte_not (p : Bs) (c : UInt8) (h : c ∉ p) : Lib.indexByte p c = -1 := by
  induction p with
  | nil => rfl
  | cons b p ih =>
    have hb : (b == c) = false := by
      simp only [beq_eq_false_iff_ne]
      intro e
      exact h (by simp [e])
    have := ih (fun hc => h (by simp [hc]))
    rw [Lib.indexByte, hb, this]
    simp
def numL (n : Nat) : Bs := if h : n > 9 then numL (n / 10) ++ [UInt8.ofNat (48 + n % 10)] else [UInt8.ofNat (48 + n)]
termination_by n
decreasing_by omega
theorem numL_great {n : Nat} (h : n > 9) : numL n = numL (n / 10) ++ [UInt8.ofNat (48 + n % 10)] := by
  rw [numL, dif_pos h]
theorem numL_small {n : Nat} (h : ¬ n > 9) : numL n = [UInt8.ofNat (48 + n)] := by
  rw [numL, dif_neg h]
theorem numL_length : ∀ (k n : Nat), n < 10 ^ (k + 1) → (numL n).length ≤ k + 1 := by
  intro k
  induction k with
  | zero =>
    intro n h
    rw [numL_small (by omega)]
    simp
  | succ k ih =>
    intro n h
    by_cases h9 : n > 9
    · rw [numL_great h9]
      have := ih (n / 10) (by rw [Nat.pow_succ] at h; omega)
      simp
      omega
    · rw [numL_small h9]
      simp
theorem numL_ne (n : Nat) : numL n ≠ [] := by
  by_cases h9 : n > 9
  · rw [numL_great h9]; simp
  · rw [numL_small h9]; simp
def isNum (c : UInt8) : Prop := 48 ≤ c.toNat ∧ c.toNat ≤ 57
theorem num_char (d : Nat) (h : d < 10) : (UInt8.ofNat (48 + d)).toNat = 48 + d := by
  rw [UInt8.toNat_ofNat']
  omega
theorem numL_chars (n : Nat) : ∀ c ∈ numL n, isNum c := by
  induction n using Nat.strongRecOn with
  | _ n ih =>
    intro c hc
    by_cases h9 : n > 9
    · rw [numL_great h9] at hc
      rcases List.mem_append.1 hc with hc | hc
      · exact ih (n / 10) (by omega) c hc
      · rw [List.mem_singleton.1 hc]
        unfold isNum
        rw [num_char _ (by omega)]
        omega
    · rw [numL_small h9] at hc
      rw [List.mem_singleton.1 hc]
      unfold isNum
      rw [num_char _ (by omega)]
      omega
theorem ten_piece (d : Nat) (h : d < 10) : ((⟨#[48, 49, 50, 51, 52, 53, 54, 55, 56, 57]⟩ : ByteArray)).extract d (d + 1) = bsOf [UInt8.ofNat (48 + d)] := by
  have : ∀ e : Fin 10, (((⟨#[48, 49, 50, 51, 52, 53, 54, 55, 56, 57]⟩ : ByteArray)).extract e.val (e.val + 1)).data.toList = [UInt8.ofNat (48 + e.val)] := by decide +kernel
  exact ba_ext (this ⟨d, h⟩)
theorem u64_wrap (n : Nat) (h : n < 18446744073709551616) : IntKind.u64.wrap (n : Int) = n := by
  rw [show IntKind.u64.wrap (n : Int) = (n : Int) % 18446744073709551616 by simp [IntKind.wrap, IntKind.bits, IntKind.signed]]
  omega
theorem num_l0 (n : Nat) : ∀ x : ByteArray, n < 18446744073709551616 → x.size + (numL n).length ≤ 9223372036854775807 → Ev (fun k => lockkeeperref1_Num.l0 k (n : Int) x) (bsOf (numL n ++ x.data.toList)) := by
  induction n using Nat.strongRecOn with
  | _ n ih =>
    intro x hn hx
    have piece : ∀ d : Nat, d < 10 → ((⟨#[48, 49, 50, 51, 52, 53, 54, 55, 56, 57]⟩ : ByteArray)).extract ((d : Int)).toNat (IntKind.u64.wrap ((d : Int) + 1)).toNat = bsOf [UInt8.ofNat (48 + d)] := by
      intro d hd
      rw [show ((d : Int) + 1) = ((d + 1 : Nat) : Int) by omega, u64_wrap _ (by omega), Int.toNat_natCast, Int.toNat_natCast]
      exact ten_piece d hd
    have psz : ∀ d : Nat, (bsOf [UInt8.ofNat (48 + d)]).size = 1 := fun d => rfl
    have pw : ∀ d : Nat, d < 10 → IntKind.u64.wrap ((d : Int) + 1) = ((d + 1 : Nat) : Int) := by
      intro d hd
      rw [show ((d : Int) + 1) = ((d + 1 : Nat) : Int) by omega, u64_wrap _ (by omega)]
    refine evSucc ?_
    simp only [lockkeeperref1_Num.l0]
    by_cases h9 : n > 9
    · have e1 : Int.tmod (n : Int) 10 = ((n % 10 : Nat) : Int) := by rw [Int.tmod_eq_emod_of_nonneg (by omega)]; omega
      have e2 : IntKind.u64.wrap (Int.tdiv (n : Int) 10) = ((n / 10 : Nat) : Int) := by
        rw [show Int.tdiv (n : Int) 10 = ((n / 10 : Nat) : Int) by rw [Int.tdiv_eq_ediv_of_nonneg (by omega)]; omega, u64_wrap _ (by omega)]
      rw [e1, e2, piece (n % 10) (by omega), psz, pw _ (by omega)]
      have hl1 : (numL n).length ≥ 1 := List.length_pos_iff.2 (numL_ne n)
      refine evPos (by omega) (evPos (by omega) (evPos (by omega) (evPos (by omega) (evPos (by omega) ?_))))
      have hsz : (bsOf [UInt8.ofNat (48 + n % 10)] ++ x).size = 1 + x.size := by rw [ByteArray.size_append, psz]
      have hl : (numL n).length = (numL (n / 10)).length + 1 := by rw [numL_great h9]; simp
      have := ih (n / 10) (by omega) (bsOf [UInt8.ofNat (48 + n % 10)] ++ x) (by omega) (by omega)
      refine evEq this ?_
      rw [append_list, bsOf_data, numL_great h9]
      simp
    · have hl1 : (numL n).length ≥ 1 := List.length_pos_iff.2 (numL_ne n)
      rw [piece n (by omega), psz, pw _ (by omega)]
      refine evNeg (by omega) (evPos (by omega) (evPos (by omega) (evPos (by omega) (evPos (by omega) ?_))))
      refine evEq (Ev.now _) ?_
      apply ba_ext
      rw [append_list, bsOf_data, bsOf_data, numL_small h9]
theorem num_ev (n : Nat) (hn : n < 18446744073709551616) : Ev (fun k => lockkeeperref1_Num.f k (n : Int)) (bsOf (numL n)) := by
  have hl := numL_length 19 n (by omega)
  have := num_l0 n (⟨#[]⟩ : ByteArray) hn (by rw [show (⟨#[]⟩ : ByteArray).size = 0 from rfl]; omega)
  simpa [lockkeeperref1_Num.f] using this
theorem digGo_append (xs : Bs) (c : UInt8) : ∀ n, digGo n (xs ++ [c]) = (digGo n xs).bind fun v => if isDig c = true then some (digStep v c) else none := by
  induction xs with
  | nil =>
    intro n
    simp [digGo]
  | cons x xs ih =>
    intro n
    rw [List.cons_append, digGo, digGo]
    cases isDig x with
    | true => simpa using ih (digStep n x)
    | false => simp
theorem dig_num (d : Nat) (h : d < 10) : isDig (UInt8.ofNat (48 + d)) = true := by
  unfold isDig
  rw [num_char d h]
  simp
  omega
theorem digStep_num (v d : Nat) (h : d < 10) (hv : v * 10 + d < 18446744073709551616) : digStep (v : Int) (UInt8.ofNat (48 + d)) = ((v * 10 + d : Nat) : Int) := by
  unfold digStep
  rw [num_char d h]
  have e1 : ((((48 + d : Nat) : Int) - 48) % 256) = d := by omega
  rw [e1, if_neg (by omega), show ((v : Int) * 10) = ((v * 10 : Nat) : Int) by omega, u64_wrap _ (by omega), show (((v * 10 : Nat) : Int) + (d : Int)) = ((v * 10 + d : Nat) : Int) by omega, u64_wrap _ (by omega)]
theorem digGo_num (n : Nat) : n < 18446744073709551616 → digGo 0 (numL n) = some (n : Int) := by
  induction n using Nat.strongRecOn with
  | _ n ih =>
    intro hn
    by_cases h9 : n > 9
    · rw [numL_great h9, digGo_append, ih (n / 10) (by omega) (by omega)]
      simp only [Option.bind_some]
      rw [if_pos (dig_num _ (by omega)), digStep_num _ _ (by omega) (by omega)]
      congr 2
      omega
    · rw [numL_small h9, digGo, if_pos (dig_num n (by omega))]
      have := digStep_num 0 n (by omega) (by omega)
      rw [show ((0 : Nat) : Int) = 0 from rfl] at this
      rw [this, digGo]
      congr 2
      omega
theorem digGo_zeros (z : Nat) (l : Bs) : digGo 0 (List.replicate z 48 ++ l) = digGo 0 l := by
  induction z with
  | zero => rfl
  | succ z ih =>
    rw [List.replicate_succ, List.cons_append, digGo, if_pos (by decide), show digStep 0 48 = 0 by decide]
    exact ih
def digL (l : Bs) : Int × Bool := match digGo 0 l with
  | some n => (n, l != [])
  | none => (0, false)
theorem digS_L (s : ByteArray) : digS s = digL s.data.toList := rfl
theorem digL_num (z n : Nat) (hn : n < 18446744073709551616) : digL (List.replicate z 48 ++ numL n) = ((n : Int), true) := by
  unfold digL
  rw [digGo_zeros, digGo_num n hn]
  have : (List.replicate z 48 ++ numL n) ≠ [] := by simp [numL_ne n]
  simp [this, numL_ne n]
theorem digL_nil : digL [] = (0, false) := rfl
theorem low_f (a n : Int) (ha : (Lit.int .i64 a).wf = true) (h1 : 1 ≤ n) (h2 : n ≤ 9223372036854775807) : ∃ r, lockkeeperlaw0_Low.f a n = some r ∧ 0 ≤ r ∧ r < n := by
  have hn : IntKind.u64.wrap n = n := by
    rw [show IntKind.u64.wrap n = n % 18446744073709551616 by simp [IntKind.wrap, IntKind.bits, IntKind.signed]]
    omega
  have ha' : 0 ≤ IntKind.u64.wrap a := by
    rw [show IntKind.u64.wrap a = a % 18446744073709551616 by simp [IntKind.wrap, IntKind.bits, IntKind.signed]]
    omega
  unfold lockkeeperlaw0_Low.f
  rw [hn, if_neg (by omega)]
  have e : Int.tmod (IntKind.u64.wrap a) n = IntKind.u64.wrap a % n := Int.tmod_eq_emod_of_nonneg ha'
  have h3 : 0 ≤ IntKind.u64.wrap a % n := Int.emod_nonneg _ (by omega)
  have h4 : IntKind.u64.wrap a % n < n := Int.emod_lt_of_pos _ (by omega)
  refine ⟨IntKind.u64.wrap a % n, ?_, h3, h4⟩
  rw [e]
  congr 1
  unfold wrap64
  omega
def splitC (c : UInt8) : Bs → List Bs
  | [] => [[]]
  | b :: l => if b = c then [] :: splitC c l else match splitC c l with
    | [] => [[b]]
    | x :: xs => (b :: x) :: xs
theorem sp_index_at (p r : Bs) (c : UInt8) (h : c ∉ p) : Lib.indexByte (p ++ c :: r) c = (p.length : Int) := by
  induction p with
  | nil => simp [Lib.indexByte]
  | cons b p ih =>
    have hb : (b == c) = false := by
      simp only [beq_eq_false_iff_ne]
      intro e
      exact h (by simp [e])
    have := ih (fun hc => h (by simp [hc]))
    rw [List.cons_append, Lib.indexByte, hb, this]
    have h2 : (((p.length : Int)) == -1) = false := by
      simp only [beq_eq_false_iff_ne]
      omega
    rw [h2]
    simp
theorem sp_index_not (p : Bs) (c : UInt8) (h : c ∉ p) : Lib.indexByte p c = -1 := by
  induction p with
  | nil => rfl
  | cons b p ih =>
    have hb : (b == c) = false := by
      simp only [beq_eq_false_iff_ne]
      intro e
      exact h (by simp [e])
    have := ih (fun hc => h (by simp [hc]))
    rw [Lib.indexByte, hb, this]
    simp
theorem splitC_not (c : UInt8) (l : Bs) (h : c ∉ l) : splitC c l = [l] := by
  induction l with
  | nil => rfl
  | cons b l ih =>
    have hb : ¬ b = c := fun e => h (by simp [e])
    rw [splitC, if_neg hb, ih (fun hc => h (by simp [hc]))]
theorem splitC_at (c : UInt8) (p r : Bs) (h : c ∉ p) : splitC c (p ++ c :: r) = p :: splitC c r := by
  induction p with
  | nil => rw [List.nil_append, splitC, if_pos rfl]
  | cons b p ih =>
    have hb : ¬ b = c := fun e => h (by simp [e])
    rw [List.cons_append, splitC, if_neg hb, ih (fun hc => h (by simp [hc]))]
theorem splitC_ne (c : UInt8) (l : Bs) : splitC c l ≠ [] := by
  cases l with
  | nil => simp [splitC]
  | cons b l =>
    rw [splitC]
    split
    · simp
    · split <;> simp
theorem splitC_append (c : UInt8) (a b : Bs) : splitC c (a ++ c :: b) = splitC c a ++ splitC c b := by
  induction a with
  | nil =>
    show splitC c (c :: b) = [[]] ++ splitC c b
    conv => lhs; rw [splitC]
    rw [if_pos rfl]
    rfl
  | cons x a ih =>
    rw [List.cons_append, splitC, splitC]
    by_cases hx : x = c
    · rw [if_pos hx, if_pos hx, ih]; rfl
    · rw [if_neg hx, if_neg hx, ih]
      cases h : splitC c a with
      | nil => exact absurd h (splitC_ne c a)
      | cons y ys => rfl
theorem splitL_data (c : UInt8) : ∀ (k : Nat) (s : ByteArray), Lib.countB s ⟨#[c]⟩ = k → (Lib.splitB ⟨#[c]⟩ 0 k s).map (·.data.toList) = splitC c s.data.toList := by
  intro k
  induction k with
  | zero =>
    intro s hk
    by_cases hm : c ∈ s.data.toList
    · obtain ⟨p, r, e, hp⟩ := List.eq_append_cons_of_mem hm
      have hix : Lib.indexB s ⟨#[c]⟩ = ((p.length : Nat) : Int) := by
        refine (Lib.index_one _ _).trans ?_
        rw [e]
        exact sp_index_at p r c hp
      have := Lib.countB_hit s ⟨#[c]⟩ p.length (Nat.le_refl 1) hix
      omega
    · rw [splitC_not c _ hm]
      rfl
  | succ k ih =>
    intro s hk
    by_cases hm : c ∈ s.data.toList
    · obtain ⟨p, r, e, hp⟩ := List.eq_append_cons_of_mem hm
      have hix : Lib.indexB s ⟨#[c]⟩ = ((p.length : Nat) : Int) := by
        refine (Lib.index_one _ _).trans ?_
        rw [e]
        exact sp_index_at p r c hp
      have hc := Lib.countB_hit s ⟨#[c]⟩ p.length (Nat.le_refl 1) hix
      rw [Lib.splitB_hit _ _ _ s p.length hix, List.map_cons, ih _ (by omega), e, splitC_at c p r hp]
      have e1 : (s.extract 0 (p.length + 0)).data.toList = p := by
        rw [extract_list, e]
        simp
      have e2 : (s.extract (p.length + (⟨#[c]⟩ : ByteArray).size) s.size).data.toList = r := by
        have hz : s.size = (p ++ c :: r).length := by rw [size_len, e]
        rw [show (⟨#[c]⟩ : ByteArray).size = 1 from rfl, extract_list, e, hz, List.take_length]
        simp
      rw [e1, e2]
    · have hix : Lib.indexB s ⟨#[c]⟩ = -1 := (Lib.index_one _ _).trans (sp_index_not _ c hm)
      rw [Lib.splitB_miss _ _ _ s hix, splitC_not c _ hm]
      rfl
theorem rdig_l0 (s : ByteArray) (hs : s.size ≤ 4611686018427387904) (r : Bs) : ∀ (p : Bs) (n : Int), s.data.toList = p ++ r →
    Ev (fun k => lockkeeperref1_Digits.l0 k s n (p.length : Int)) (match digGo n r with | some n => (n, s.data.toList != []) | none => (0, false)) := by
  induction r with
  | nil =>
    intro p n hp
    have hl : s.size = p.length := by rw [size_len, hp]; simp
    refine evSucc ?_
    simp only [lockkeeperref1_Digits.l0]
    refine evNeg (by omega) (evEq (Ev.now _) ?_)
    rw [digGo, hp, hl]
    cases p with
    | nil => rfl
    | cons c p => simp
  | cons c r ih =>
    intro p n hp
    have hl : s.size = p.length + (r.length + 1) := by rw [size_len, hp]; simp
    have hb := bt_mid s p c r hp
    have e2 : wrap64 ((p.length : Int) + 1) = ((p ++ [c]).length : Int) := by simp; unfold wrap64; omega
    have hj : ∀ x : Bool, x = !isDig c → Ev (fun k => lockkeeperref1_Digits.j1 k s n (p.length : Int) x) (match digGo n (c :: r) with | some n => (n, s.data.toList != []) | none => (0, false)) := by
      intro x hx
      refine evSucc ?_
      simp only [lockkeeperref1_Digits.j1, hb, e2]
      rw [digGo, hx]
      cases hd : isDig c with
      | false => exact evPos rfl (evEq (Ev.now _) (by simp))
      | true =>
        have := ih (p ++ [c]) (digStep n c) (by simpa using hp)
        simp only [if_true]
        refine evNeg (by decide) (evPos (by omega) (evPos (by omega) ?_))
        by_cases hg : n > (18446744073709551615 - (((c.toNat : Int) - 48) % 256)) / 10
        · refine evPos hg ?_
          rw [show digStep n c = 18446744073709551615 by unfold digStep; rw [if_pos hg]] at this ⊢
          exact this
        · refine evNeg hg ?_
          rw [show digStep n c = IntKind.u64.wrap ((IntKind.u64.wrap (n * 10)) + (((c.toNat : Int) - 48) % 256)) by unfold digStep; rw [if_neg hg]] at this ⊢
          rw [show (10 : Int) * n = n * 10 by omega]
          exact this
    refine evSucc ?_
    simp only [lockkeeperref1_Digits.l0, hb]
    refine evPos (by omega) (evPos (by omega) ?_)
    by_cases h : (c.toNat : Int) < 48
    · exact evPos h (hj true (by unfold isDig; simp; omega))
    · refine evNeg h (hj _ ?_)
      unfold isDig
      rw [show decide ((c.toNat : Int) ≥ 48) = true by simp; omega, Bool.true_and, Bool.eq_iff_iff]
      simp
theorem rdig_ev (s : ByteArray) (hs : s.size ≤ 4611686018427387904) : Ev (fun k => lockkeeperref1_Digits.f k s) (digS s) := by
  have := rdig_l0 s hs s.data.toList [] 0 rfl
  exact evEq this (by unfold digS; cases digGo 0 s.data.toList <;> rfl)
theorem in_l0 (s : ByteArray) (c : UInt8) (hs : s.size ≤ 4611686018427387904) (r : Bs) : ∀ p : Bs, s.data.toList = p ++ r → Ev (fun k => lockkeeperref1_In.l0 k (c.toNat : Int) s (p.length : Int)) (r.contains c) := by
  induction r with
  | nil =>
    intro p hp
    have hl : s.size = p.length := by rw [size_len, hp]; simp
    refine evSucc ?_
    simp only [lockkeeperref1_In.l0]
    exact evNeg (by omega) (Ev.now _)
  | cons b r ih =>
    intro p hp
    have hl : s.size = p.length + (r.length + 1) := by rw [size_len, hp]; simp
    have hb := bt_mid s p b r hp
    have e2 : wrap64 ((p.length : Int) + 1) = ((p ++ [b]).length : Int) := by simp; unfold wrap64; omega
    refine evSucc ?_
    simp only [lockkeeperref1_In.l0, hb, e2]
    refine evPos (by omega) (evPos (by omega) ?_)
    rw [List.contains_cons]
    by_cases h : b = c
    · subst h
      exact evPos rfl (evEq (Ev.now _) (by simp))
    · have hn : ¬ (b.toNat : Int) = (c.toNat : Int) := fun e => h (UInt8.toNat_inj.1 (by omega))
      have hc : (c == b) = false := by simpa using fun e => h e.symm
      refine evNeg hn (evEq (ih (p ++ [b]) (by simpa using hp)) ?_)
      rw [hc, Bool.false_or]
theorem in_ev (s : ByteArray) (c : UInt8) (hs : s.size ≤ 4611686018427387904) : Ev (fun k => lockkeeperref1_In.f k (c.toNat : Int) s) (s.data.toList.contains c) := in_l0 s c hs s.data.toList [] rfl
theorem rlower_f (s : ByteArray) (h : s.size ≤ 9223372036854775807) : lockkeeperref1_Lower.f s = some (lowB s) := by
  unfold lockkeeperref1_Lower.f
  rw [if_pos h, lowS_eq]
  rfl
theorem cutS_at (s : ByteArray) (p r : Bs) (c : UInt8) (hs : s.data.toList = p ++ c :: r) (h : c ∉ p) : cutS s ⟨#[c]⟩ = (bsOf p, bsOf r, true) := by
  unfold cutS Lib.cut
  have e : Lib.index s.data.toList (⟨#[c]⟩ : ByteArray).data.toList = (p.length : Int) := by
    rw [hs]
    exact (Lib.index_one _ _).trans (indexByte_at p r c h)
  rw [e, if_pos (by omega), hs]
  simp
theorem cutS_not (s : ByteArray) (c : UInt8) (h : c ∉ s.data.toList) : cutS s ⟨#[c]⟩ = (s, ⟨#[]⟩, false) := by
  unfold cutS Lib.cut
  have e : Lib.index s.data.toList (⟨#[c]⟩ : ByteArray).data.toList = -1 := (Lib.index_one _ _).trans (indexByte_not _ c h)
  rw [e, if_neg (by omega)]
  simp only [bsOf_of]
  rfl

theorem wf_u64 {b : Int} (hb : (Lit.int .u64 b).wf = true) : 0 ≤ b ∧ b ≤ 18446744073709551615 := by
  have h : IntKind.u64.min ≤ b ∧ b ≤ IntKind.u64.max := by simpa [Lit.wf] using hb
  rw [show IntKind.u64.min = 0 from rfl, show IntKind.u64.max = 18446744073709551615 from rfl] at h
  exact h
theorem cut_f (s sep : ByteArray) (hs : s.size < 4294967281) : strings_Cut.f s sep = some (cutS s sep) := by
  unfold strings_Cut.f
  rw [if_pos hs]
theorem cutS_size (s sep : ByteArray) : (cutS s sep).1.size ≤ s.size ∧ (cutS s sep).2.1.size ≤ s.size := by
  have e := size_len s
  unfold cutS Lib.cut
  split
  · simp only [size_bsOf, List.length_take, List.length_drop]
    omega
  · simp only [size_bsOf, List.length_nil]
    omega
theorem split1_f (s : ByteArray) (c : UInt8) (h : s.size < 4294967281) : strings_Split.f s ⟨#[c]⟩ = some (splitL s ⟨#[c]⟩) := by
  unfold strings_Split.f
  rw [if_pos ⟨h, rfl⟩]
theorem splitL_bs (s : ByteArray) (c : UInt8) : splitL s ⟨#[c]⟩ = (splitC c s.data.toList).map bsOf := by
  have := splitL_data c _ s rfl
  have h2 := congrArg (List.map bsOf) this
  rw [List.map_map] at h2
  rw [← h2]
  simp [splitL, Function.comp_def, bsOf_of]
theorem splitC_count (c : UInt8) (l : Bs) : (splitC c l).length ≤ l.length + 1 := by
  induction l with
  | nil => simp [splitC]
  | cons b l ih =>
    rw [splitC]
    split
    · simpa using ih
    · split
      · simp
      · rename_i x xs e; rw [e] at ih; simp at ih ⊢; omega
theorem splitC_mem (c : UInt8) (l : Bs) : ∀ y ∈ splitC c l, (∀ d ∈ y, d ∈ l ∧ d ≠ c) ∧ y.length ≤ l.length := by
  induction l with
  | nil => intro y hy; rw [splitC, List.mem_singleton] at hy; subst hy; exact ⟨by simp, by simp⟩
  | cons b l ih =>
    intro y hy
    rw [splitC] at hy
    by_cases hb : b = c
    · rw [if_pos hb] at hy
      rcases List.mem_cons.1 hy with rfl | hy
      · exact ⟨by simp, by simp⟩
      · have := ih y hy
        exact ⟨fun d hd => ⟨List.mem_cons_of_mem _ (this.1 d hd).1, (this.1 d hd).2⟩, by simp; omega⟩
    · rw [if_neg hb] at hy
      cases h : splitC c l with
      | nil => exact absurd h (splitC_ne c l)
      | cons x xs =>
        rw [h] at hy
        rcases List.mem_cons.1 hy with rfl | hy
        · have := ih x (by rw [h]; simp)
          refine ⟨fun d hd => ?_, by simp; omega⟩
          rcases List.mem_cons.1 hd with rfl | hd
          · exact ⟨by simp, hb⟩
          · exact ⟨List.mem_cons_of_mem _ (this.1 d hd).1, (this.1 d hd).2⟩
        · have := ih y (by rw [h]; simp [hy])
          exact ⟨fun d hd => ⟨List.mem_cons_of_mem _ (this.1 d hd).1, (this.1 d hd).2⟩, by simp; omega⟩
theorem dec_numL (n : Nat) : Lib.decDigits n = numL n := by
  induction n using Nat.strongRecOn with
  | _ n ih =>
    rw [Lib.decDigits, numL]
    by_cases h : n < 10
    · rw [dif_pos h, dif_neg (by omega)]
    · rw [dif_neg h, dif_pos (by omega), ih (n / 10) (by omega)]
theorem itoa_f (n : Nat) (h : n ≤ 9223372036854775807) : strconv_Itoa.f (n : Int) = some (bsOf (numL n)) := by
  unfold strconv_Itoa.f
  rw [if_pos ⟨by omega, by omega⟩]
  unfold Lib.itoa
  rw [if_neg (by omega), Int.toNat_natCast, dec_numL]
theorem numL_head (n : Nat) (h : 1 ≤ n) : ∃ c l, numL n = c :: l ∧ c ≠ 48 := by
  induction n using Nat.strongRecOn with
  | _ n ih =>
    by_cases h9 : n > 9
    · obtain ⟨c, l, e, hc⟩ := ih (n / 10) (by omega) (by omega)
      exact ⟨c, l ++ [UInt8.ofNat (48 + n % 10)], by rw [numL_great h9, e]; rfl, hc⟩
    · refine ⟨UInt8.ofNat (48 + n), [], numL_small h9, fun e => ?_⟩
      have := congrArg UInt8.toNat e
      rw [num_char n (by omega)] at this
      have h48 : (48 : UInt8).toNat = 48 := rfl
      omega
theorem lowL_id (l : Bs) (h : ∀ c ∈ l, lowC c = c) : lowL l = l := by
  unfold lowL
  conv => rhs; rw [← List.map_id l]
  exact List.map_congr_left h
end Go.Proofs.YtbfbidifodcedaaDoor.Pr
