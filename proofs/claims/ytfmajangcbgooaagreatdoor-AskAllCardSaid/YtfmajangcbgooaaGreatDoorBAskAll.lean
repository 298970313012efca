
/- Plain laws: what AskAll leans on, in one text. -/
import Derived.Test.YtfmajangcbgooaaGreatDoorG4
import Derived.Test.YtfmajangcbgooaaGreatDoorG5
import Derived.Test.YtfmajangcbgooaaGreatDoorG2
import Derived.Sort.Walk0
import Derived.Test.YtfmajangcbgooaaGreatDoorG7
import Derived.Test.YtfmajangcbgooaaGreatDoorG11
import Derived.Test.YtfmajangcbgooaaGreatDoorPr5
import Derived.Test.YtfmajangcbgooaaGreatDoorPr14
import Derived.Test.YtfmajangcbgooaaGreatDoorPr16
import Derived.Test.YtfmajangcbgooaaGreatDoorPr10
import Derived.Test.YtfmajangcbgooaaGreatDoorPr33
import Derived.Test.YtfmajangcbgooaaGreatDoorPr9
import Derived.Test.YtfmajangcbgooaaGreatDoorPr22
import Derived.Test.YtfmajangcbgooaaGreatDoorPr32
import Derived.Test.YtfmajangcbgooaaGreatDoorPr19
import Derived.Test.YtfmajangcbgooaaGreatDoorPr27
import Derived.Test.YtfmajangcbgooaaGreatDoorPr11
import Derived.Test.YtfmajangcbgooaaGreatDoorPr13
import Derived.Test.YtfmajangcbgooaaGreatDoorPr21
import Derived.Test.YtfmajangcbgooaaGreatDoorPr26
namespace Go.Proofs.YtfmajangcbgooaaGreatDoor.Pr
open Go.RowKit Go.Proofs.YtfmajangcbgooaaGreatDoorW.PrintWords Go.Proofs.YtfmajangcbgooaaGreatDoorW.PrintLast
set_option linter.unusedVariables false
set_option linter.unusedSimpArgs false
abbrev Bs := List UInt8
theorem tl (s : ByteArray) : s.toList = s.data.toList := ByteArray.toList_eq s
theorem ba_ext {a b : ByteArray} (h : a.data.toList = b.data.toList) : a = b := by
  rw [← bsOf_of a, ← bsOf_of b, h]
theorem tl_eq (a b : ByteArray) : (a.toList = b.toList) ↔ a = b := by
  rw [tl, tl]
  exact ⟨ba_ext, fun h => by rw [h]⟩
theorem tl_beq (a b : ByteArray) : (a.toList == b.toList) = (a.data.toList == b.data.toList) := by rw [tl, tl]
theorem size_len (s : ByteArray) : s.size = s.data.toList.length := (data_length s).symm
theorem size_bsOf (l : Bs) : (bsOf l).size = l.length := by rw [size_len]; rfl
theorem extract_list (s : ByteArray) (a b : Nat) : (s.extract a b).data.toList = (s.data.toList.take b).drop a := by
  simp [List.drop_take]
theorem append_list (s t : ByteArray) : (s ++ t).data.toList = s.data.toList ++ t.data.toList := by simp
theorem bt_get (s : ByteArray) (i : Nat) (h : i < s.size) : bt s (i : Int) = ((s.data.toList.getD i 0).toNat : Int) := by
  have h' : i < s.data.toList.length := by rw [← size_len]; exact h
  unfold bt
  rw [dif_pos (by simpa using h), List.getD_eq_getElem?_getD, List.getElem?_eq_getElem h']
  simp
  rfl
def lowC (c : UInt8) : UInt8 := if 65 ≤ c ∧ c ≤ 90 then c + 32 else c
def lowL (l : Bs) : Bs := l.map lowC
theorem strOfNums_bytes (l : Bs) : strOfNums (l.map fun b => (b.toNat : Int)) = bsOf l := by
  unfold strOfNums bsOf
  congr 1
  congr 1
  rw [List.map_map]
  conv => rhs; rw [← List.map_id l]
  apply List.map_congr_left
  intro b _
  simp
theorem lowI_lowC (c : UInt8) : lowI (c.toNat : Int) = ((lowC c).toNat : Int) := by
  unfold lowI lowC
  have hc := c.toNat_lt
  simp only [UInt8.le_iff_toNat_le, UInt8.toNat_ofNat]
  by_cases h : 65 ≤ c.toNat ∧ c.toNat ≤ 90
  · rw [if_pos (by omega), if_pos (by simpa using h)]
    simp [UInt8.toNat_add]
    omega
  · rw [if_neg (by omega), if_neg (by simpa using h)]
theorem lowS_eq (s : ByteArray) : lowS s = bsOf (lowL s.data.toList) := by
  unfold lowS lowL
  rw [← strOfNums_bytes]
  congr 1
  apply List.ext_getElem?
  intro i
  simp only [bytesOf, List.getElem?_mapIdx, List.getElem?_map]
  cases s.data.toList[i]? with
  | none => rfl
  | some c => simp [lowI_lowC]
theorem lower_f (s : ByteArray) (h : s.size ≤ 9223372036854775807) : octet_Lower.f s = some (bsOf (lowL s.data.toList)) := by
  unfold octet_Lower.f
  rw [if_pos h, lowS_eq]
theorem evSucc {α : Type} {g : Nat → Option α} {r : α} (h : Ev (fun k => g (k + 1)) r) : Ev g r := Ev.step (fun _ => rfl) h
theorem evEq {α : Type} {g : Nat → Option α} {r r' : α} (h : Ev g r) (e : r = r') : Ev g r' := e ▸ h
theorem evPos {α : Type} {c : Prop} [Decidable c] {g h : Nat → Option α} {r : α} (hc : c) (hg : Ev g r) : Ev (fun k => if c then g k else h k) r := by
  simp only [if_pos hc]
  exact hg
theorem evNeg {α : Type} {c : Prop} [Decidable c] {g h : Nat → Option α} {r : α} (hc : ¬ c) (hg : Ev h r) : Ev (fun k => if c then g k else h k) r := by
  simp only [if_neg hc]
  exact hg
theorem evBind {α β : Type} {a : Option α} {x : α} {f : Nat → α → Option β} {r : β} (h : a = some x) (k : Ev (fun n => f n x) r) : Ev (fun n => a.bind (f n)) r := by
  subst h
  exact k
theorem evIte {α : Type} {c : Prop} [Decidable c] {g h : Nat → Option α} {r s : α} (hp : c → Ev g r) (hn : ¬ c → Ev h s) : Ev (fun k => if c then g k else h k) (if c then r else s) := by
  by_cases hc : c
  · rw [if_pos hc]; exact evPos hc (hp hc)
  · rw [if_neg hc]; exact evNeg hc (hn hc)
def lowB (s : ByteArray) : ByteArray := bsOf (lowL s.data.toList)
theorem lowB_data (s : ByteArray) : (lowB s).data.toList = lowL s.data.toList := rfl
theorem lowB_size (s : ByteArray) : (lowB s).size = s.size := by
  unfold lowB lowL
  rw [size_bsOf, List.length_map, size_len]
theorem rdOf_get (l : List ByteArray) (i : Nat) (h : i < l.length) : rdOf ByteArray.empty l (i : Int) = l[i] := by
  simp [rdOf, List.getD_eq_getElem?_getD, h]
def isDig (c : UInt8) : Bool := decide ((c.toNat : Int) ≥ 48) && decide ((c.toNat : Int) ≤ 57)
theorem digit_f (c : UInt8) : octet_digit.f (c.toNat : Int) = some (isDig c) := by
  unfold octet_digit.f isDig
  by_cases h : (c.toNat : Int) ≥ 48
  · rw [if_pos h]; simp only [h, decide_true, Bool.true_and]
  · rw [if_neg h]; simp only [h, decide_false, Bool.false_and]
def digStep (n : Int) (c : UInt8) : Int :=
  if n > (18446744073709551615 - (((c.toNat : Int) - 48) % 256)) / 10 then 18446744073709551615 else IntKind.u64.wrap ((IntKind.u64.wrap (n * 10)) + (((c.toNat : Int) - 48) % 256))
def digGo : Int → Bs → Option Int
  | n, [] => some n
  | n, c :: r => if isDig c = true then digGo (digStep n c) r else none
def digS (s : ByteArray) : Int × Bool := match digGo 0 s.data.toList with
  | some n => (n, s.data.toList != [])
  | none => (0, false)
theorem bt_mid (s : ByteArray) (p : Bs) (c : UInt8) (r : Bs) (h : s.data.toList = p ++ c :: r) : bt s (p.length : Int) = (c.toNat : Int) := by
  rw [bt_get s p.length (by rw [size_len, h]; simp), h]
  simp [List.getD_eq_getElem?_getD]
theorem digits_l0 (s : ByteArray) (hs : s.size ≤ 4611686018427387904) (r : Bs) : ∀ (p : Bs) (n : Int), s.data.toList = p ++ r → 
    Ev (fun k => octet_Digits.l0 k s n (s.size : Int) (p.length : Int)) (match digGo n r with | some n => (n, s.data.toList != []) | none => (0, false)) := by
  induction r with
  | nil =>
    intro p n hp
    have hl : s.size = p.length := by rw [size_len, hp]; simp
    refine evSucc ?_
    simp only [octet_Digits.l0]
    refine evNeg (by omega) (evEq (Ev.now _) ?_)
    rw [tl]
    rfl
  | cons c r ih =>
    intro p n hp
    have hl : s.size = p.length + (r.length + 1) := by rw [size_len, hp]; simp
    have hb := bt_mid s p c r hp
    have e2 : wrap64 ((p.length : Int) + 1) = ((p ++ [c]).length : Int) := by simp; unfold wrap64; omega
    refine evSucc ?_
    simp only [octet_Digits.l0, hb, e2]
    refine evPos (by omega) (evPos (by omega) (evPos (by omega) (evBind (digit_f c) ?_)))
    rw [digGo]
    cases hd : isDig c with
    | true =>
      refine evPos rfl ?_
      simp only [if_true]
      by_cases hg : n > (18446744073709551615 - (((c.toNat : Int) - 48) % 256)) / 10
      · refine evPos hg ?_
        have := ih (p ++ [c]) (digStep n c) (by simpa using hp)
        rw [show digStep n c = 18446744073709551615 by unfold digStep; rw [if_pos hg]] at this ⊢
        exact this
      · refine evNeg hg ?_
        have := ih (p ++ [c]) (digStep n c) (by simpa using hp)
        rw [show digStep n c = IntKind.u64.wrap ((IntKind.u64.wrap (n * 10)) + (((c.toNat : Int) - 48) % 256)) by unfold digStep; rw [if_neg hg]] at this ⊢
        exact this
    | false =>
      refine evNeg (by decide) (evEq (Ev.now _) ?_)
      simp
theorem digits_ev (s : ByteArray) (hs : s.size ≤ 4611686018427387904) : Ev (fun k => octet_Digits.f k s) (digS s) := by
  have := digits_l0 s hs s.data.toList [] 0 rfl
  simpa [octet_Digits.f, digS] using this
theorem indexByte_at (p r : Bs) (c : UInt8) (h : c ∉ p) : Lib.indexByte (p ++ c :: r) c = (p.length : Int) := by
  induction p with
  | nil => simp [Lib.indexByte]
  | cons b p ih =>
    have hb : (b == c) = false := by
      simp only [beq_eq_false_iff_ne]
      intro e
      exact h (by simp [e])
    have := ih (fun hc => h (by simp [hc]))
    rw [List.cons_append, Lib.indexByte, hb, this]
    have h2 : (((p.length : Int)) == -1) = false := by
      simp only [beq_eq_false_iff_ne]
      omega
    rw [h2]
    simp
theorem indexByte_not (p : Bs) (c : UInt8) (h : c ∉ p) : Lib.indexByte p c = -1 := by
  induction p with
  | nil => rfl
  | cons b p ih =>
    have hb : (b == c) = false := by
      simp only [beq_eq_false_iff_ne]
      intro e
      exact h (by simp [e])
    have := ih (fun hc => h (by simp [hc]))
    rw [Lib.indexByte, hb, this]
    simp
def numL (n : Nat) : Bs := if h : n > 9 then numL (n / 10) ++ [UInt8.ofNat (48 + n % 10)] else [UInt8.ofNat (48 + n)]
termination_by n
decreasing_by omega
theorem numL_great {n : Nat} (h : n > 9) : numL n = numL (n / 10) ++ [UInt8.ofNat (48 + n % 10)] := by
  rw [numL, dif_pos h]
theorem numL_small {n : Nat} (h : ¬ n > 9) : numL n = [UInt8.ofNat (48 + n)] := by
  rw [numL, dif_neg h]
theorem numL_length : ∀ (k n : Nat), n < 10 ^ (k + 1) → (numL n).length ≤ k + 1 := by
  intro k
  induction k with
  | zero =>
    intro n h
    rw [numL_small (by omega)]
    simp
  | succ k ih =>
    intro n h
    by_cases h9 : n > 9
    · rw [numL_great h9]
      have := ih (n / 10) (by rw [Nat.pow_succ] at h; omega)
      simp
      omega
    · rw [numL_small h9]
      simp
theorem numL_ne (n : Nat) : numL n ≠ [] := by
  by_cases h9 : n > 9
  · rw [numL_great h9]; simp
  · rw [numL_small h9]; simp
def isNum (c : UInt8) : Prop := 48 ≤ c.toNat ∧ c.toNat ≤ 57
theorem num_char (d : Nat) (h : d < 10) : (UInt8.ofNat (48 + d)).toNat = 48 + d := by
  rw [UInt8.toNat_ofNat']
  omega
theorem numL_chars (n : Nat) : ∀ c ∈ numL n, isNum c := by
  induction n using Nat.strongRecOn with
  | _ n ih =>
    intro c hc
    by_cases h9 : n > 9
    · rw [numL_great h9] at hc
      rcases List.mem_append.1 hc with hc | hc
      · exact ih (n / 10) (by omega) c hc
      · rw [List.mem_singleton.1 hc]
        unfold isNum
        rw [num_char _ (by omega)]
        omega
    · rw [numL_small h9] at hc
      rw [List.mem_singleton.1 hc]
      unfold isNum
      rw [num_char _ (by omega)]
      omega
theorem ten_piece (d : Nat) (h : d < 10) : ((⟨#[48, 49, 50, 51, 52, 53, 54, 55, 56, 57]⟩ : ByteArray)).extract d (d + 1) = bsOf [UInt8.ofNat (48 + d)] := by
  have : ∀ e : Fin 10, (((⟨#[48, 49, 50, 51, 52, 53, 54, 55, 56, 57]⟩ : ByteArray)).extract e.val (e.val + 1)).data.toList = [UInt8.ofNat (48 + e.val)] := by decide +kernel
  exact ba_ext (this ⟨d, h⟩)
theorem u64_wrap (n : Nat) (h : n < 18446744073709551616) : IntKind.u64.wrap (n : Int) = n := by
  rw [show IntKind.u64.wrap (n : Int) = (n : Int) % 18446744073709551616 by simp [IntKind.wrap, IntKind.bits, IntKind.signed]]
  omega
theorem num_l0 (n : Nat) : ∀ x : ByteArray, n < 18446744073709551616 → x.size + (numL n).length ≤ 9223372036854775807 → Ev (fun k => lockkeeperref1_Num.l0 k (n : Int) x) (bsOf (numL n ++ x.data.toList)) := by
  induction n using Nat.strongRecOn with
  | _ n ih =>
    intro x hn hx
    have piece : ∀ d : Nat, d < 10 → ((⟨#[48, 49, 50, 51, 52, 53, 54, 55, 56, 57]⟩ : ByteArray)).extract ((d : Int)).toNat (IntKind.u64.wrap ((d : Int) + 1)).toNat = bsOf [UInt8.ofNat (48 + d)] := by
      intro d hd
      rw [show ((d : Int) + 1) = ((d + 1 : Nat) : Int) by omega, u64_wrap _ (by omega), Int.toNat_natCast, Int.toNat_natCast]
      exact ten_piece d hd
    have psz : ∀ d : Nat, (bsOf [UInt8.ofNat (48 + d)]).size = 1 := fun d => rfl
    have pw : ∀ d : Nat, d < 10 → IntKind.u64.wrap ((d : Int) + 1) = ((d + 1 : Nat) : Int) := by
      intro d hd
      rw [show ((d : Int) + 1) = ((d + 1 : Nat) : Int) by omega, u64_wrap _ (by omega)]
    refine evSucc ?_
    simp only [lockkeeperref1_Num.l0]
    by_cases h9 : n > 9
    · have e1 : Int.tmod (n : Int) 10 = ((n % 10 : Nat) : Int) := by rw [Int.tmod_eq_emod_of_nonneg (by omega)]; omega
      have e2 : IntKind.u64.wrap (Int.tdiv (n : Int) 10) = ((n / 10 : Nat) : Int) := by
        rw [show Int.tdiv (n : Int) 10 = ((n / 10 : Nat) : Int) by rw [Int.tdiv_eq_ediv_of_nonneg (by omega)]; omega, u64_wrap _ (by omega)]
      rw [e1, e2, piece (n % 10) (by omega), psz, pw _ (by omega)]
      have hl1 : (numL n).length ≥ 1 := List.length_pos_iff.2 (numL_ne n)
      refine evPos (by omega) (evPos (by omega) (evPos (by omega) (evPos (by omega) (evPos (by omega) ?_))))
      have hsz : (bsOf [UInt8.ofNat (48 + n % 10)] ++ x).size = 1 + x.size := by rw [ByteArray.size_append, psz]
      have hl : (numL n).length = (numL (n / 10)).length + 1 := by rw [numL_great h9]; simp
      have := ih (n / 10) (by omega) (bsOf [UInt8.ofNat (48 + n % 10)] ++ x) (by omega) (by omega)
      refine evEq this ?_
      rw [append_list, bsOf_data, numL_great h9]
      simp
    · have hl1 : (numL n).length ≥ 1 := List.length_pos_iff.2 (numL_ne n)
      rw [piece n (by omega), psz, pw _ (by omega)]
      refine evNeg (by omega) (evPos (by omega) (evPos (by omega) (evPos (by omega) (evPos (by omega) ?_))))
      refine evEq (Ev.now _) ?_
      apply ba_ext
      rw [append_list, bsOf_data, bsOf_data, numL_small h9]
theorem num_ev (n : Nat) (hn : n < 18446744073709551616) : Ev (fun k => lockkeeperref1_Num.f k (n : Int)) (bsOf (numL n)) := by
  have hl := numL_length 19 n (by omega)
  have := num_l0 n (⟨#[]⟩ : ByteArray) hn (by rw [show (⟨#[]⟩ : ByteArray).size = 0 from rfl]; omega)
  simpa [lockkeeperref1_Num.f] using this
theorem digGo_append (xs : Bs) (c : UInt8) : ∀ n, digGo n (xs ++ [c]) = (digGo n xs).bind fun v => if isDig c = true then some (digStep v c) else none := by
  induction xs with
  | nil =>
    intro n
    simp [digGo]
  | cons x xs ih =>
    intro n
    rw [List.cons_append, digGo, digGo]
    cases isDig x with
    | true => simpa using ih (digStep n x)
    | false => simp
theorem dig_num (d : Nat) (h : d < 10) : isDig (UInt8.ofNat (48 + d)) = true := by
  unfold isDig
  rw [num_char d h]
  simp
  omega
theorem digStep_num (v d : Nat) (h : d < 10) (hv : v * 10 + d < 18446744073709551616) : digStep (v : Int) (UInt8.ofNat (48 + d)) = ((v * 10 + d : Nat) : Int) := by
  unfold digStep
  rw [num_char d h]
  have e1 : ((((48 + d : Nat) : Int) - 48) % 256) = d := by omega
  rw [e1, if_neg (by omega), show ((v : Int) * 10) = ((v * 10 : Nat) : Int) by omega, u64_wrap _ (by omega), show (((v * 10 : Nat) : Int) + (d : Int)) = ((v * 10 + d : Nat) : Int) by omega, u64_wrap _ (by omega)]
theorem digGo_num (n : Nat) : n < 18446744073709551616 → digGo 0 (numL n) = some (n : Int) := by
  induction n using Nat.strongRecOn with
  | _ n ih =>
    intro hn
    by_cases h9 : n > 9
    · rw [numL_great h9, digGo_append, ih (n / 10) (by omega) (by omega)]
      simp only [Option.bind_some]
      rw [if_pos (dig_num _ (by omega)), digStep_num _ _ (by omega) (by omega)]
      congr 2
      omega
    · rw [numL_small h9, digGo, if_pos (dig_num n (by omega))]
      have := digStep_num 0 n (by omega) (by omega)
      rw [show ((0 : Nat) : Int) = 0 from rfl] at this
      rw [this, digGo]
      congr 2
      omega
theorem digGo_zeros (z : Nat) (l : Bs) : digGo 0 (List.replicate z 48 ++ l) = digGo 0 l := by
  induction z with
  | zero => rfl
  | succ z ih =>
    rw [List.replicate_succ, List.cons_append, digGo, if_pos (by decide), show digStep 0 48 = 0 by decide]
    exact ih
def digL (l : Bs) : Int × Bool := match digGo 0 l with
  | some n => (n, l != [])
  | none => (0, false)
theorem digS_L (s : ByteArray) : digS s = digL s.data.toList := rfl
theorem digL_num (z n : Nat) (hn : n < 18446744073709551616) : digL (List.replicate z 48 ++ numL n) = ((n : Int), true) := by
  unfold digL
  rw [digGo_zeros, digGo_num n hn]
  have : (List.replicate z 48 ++ numL n) ≠ [] := by simp [numL_ne n]
  simp [this, numL_ne n]
def splitC (c : UInt8) : Bs → List Bs
  | [] => [[]]
  | b :: l => if b = c then [] :: splitC c l else match splitC c l with
    | [] => [[b]]
    | x :: xs => (b :: x) :: xs
theorem sp_index_at (p r : Bs) (c : UInt8) (h : c ∉ p) : Lib.indexByte (p ++ c :: r) c = (p.length : Int) := by
  induction p with
  | nil => simp [Lib.indexByte]
  | cons b p ih =>
    have hb : (b == c) = false := by
      simp only [beq_eq_false_iff_ne]
      intro e
      exact h (by simp [e])
    have := ih (fun hc => h (by simp [hc]))
    rw [List.cons_append, Lib.indexByte, hb, this]
    have h2 : (((p.length : Int)) == -1) = false := by
      simp only [beq_eq_false_iff_ne]
      omega
    rw [h2]
    simp
theorem sp_index_not (p : Bs) (c : UInt8) (h : c ∉ p) : Lib.indexByte p c = -1 := by
  induction p with
  | nil => rfl
  | cons b p ih =>
    have hb : (b == c) = false := by
      simp only [beq_eq_false_iff_ne]
      intro e
      exact h (by simp [e])
    have := ih (fun hc => h (by simp [hc]))
    rw [Lib.indexByte, hb, this]
    simp
theorem splitC_not (c : UInt8) (l : Bs) (h : c ∉ l) : splitC c l = [l] := by
  induction l with
  | nil => rfl
  | cons b l ih =>
    have hb : ¬ b = c := fun e => h (by simp [e])
    rw [splitC, if_neg hb, ih (fun hc => h (by simp [hc]))]
theorem splitC_at (c : UInt8) (p r : Bs) (h : c ∉ p) : splitC c (p ++ c :: r) = p :: splitC c r := by
  induction p with
  | nil => rw [List.nil_append, splitC, if_pos rfl]
  | cons b p ih =>
    have hb : ¬ b = c := fun e => h (by simp [e])
    rw [List.cons_append, splitC, if_neg hb, ih (fun hc => h (by simp [hc]))]
theorem splitC_ne (c : UInt8) (l : Bs) : splitC c l ≠ [] := by
  cases l with
  | nil => simp [splitC]
  | cons b l =>
    rw [splitC]
    split
    · simp
    · split <;> simp
theorem splitL_data (c : UInt8) : ∀ (k : Nat) (s : ByteArray), Lib.countB s ⟨#[c]⟩ = k → (Lib.splitB ⟨#[c]⟩ 0 k s).map (·.data.toList) = splitC c s.data.toList := by
  intro k
  induction k with
  | zero =>
    intro s hk
    by_cases hm : c ∈ s.data.toList
    · obtain ⟨p, r, e, hp⟩ := List.eq_append_cons_of_mem hm
      have hix : Lib.indexB s ⟨#[c]⟩ = ((p.length : Nat) : Int) := by
        refine (Lib.index_one _ _).trans ?_
        rw [e]
        exact sp_index_at p r c hp
      have := Lib.countB_hit s ⟨#[c]⟩ p.length (Nat.le_refl 1) hix
      omega
    · rw [splitC_not c _ hm]
      rfl
  | succ k ih =>
    intro s hk
    by_cases hm : c ∈ s.data.toList
    · obtain ⟨p, r, e, hp⟩ := List.eq_append_cons_of_mem hm
      have hix : Lib.indexB s ⟨#[c]⟩ = ((p.length : Nat) : Int) := by
        refine (Lib.index_one _ _).trans ?_
        rw [e]
        exact sp_index_at p r c hp
      have hc := Lib.countB_hit s ⟨#[c]⟩ p.length (Nat.le_refl 1) hix
      rw [Lib.splitB_hit _ _ _ s p.length hix, List.map_cons, ih _ (by omega), e, splitC_at c p r hp]
      have e1 : (s.extract 0 (p.length + 0)).data.toList = p := by
        rw [extract_list, e]
        simp
      have e2 : (s.extract (p.length + (⟨#[c]⟩ : ByteArray).size) s.size).data.toList = r := by
        have hz : s.size = (p ++ c :: r).length := by rw [size_len, e]
        rw [show (⟨#[c]⟩ : ByteArray).size = 1 from rfl, extract_list, e, hz, List.take_length]
        simp
      rw [e1, e2]
    · have hix : Lib.indexB s ⟨#[c]⟩ = -1 := (Lib.index_one _ _).trans (sp_index_not _ c hm)
      rw [Lib.splitB_miss _ _ _ s hix, splitC_not c _ hm]
      rfl
theorem rdig_l0 (s : ByteArray) (hs : s.size ≤ 4611686018427387904) (r : Bs) : ∀ (p : Bs) (n : Int), s.data.toList = p ++ r →
    Ev (fun k => lockkeeperref1_Digits.l0 k s n (p.length : Int)) (match digGo n r with | some n => (n, s.data.toList != []) | none => (0, false)) := by
  induction r with
  | nil =>
    intro p n hp
    have hl : s.size = p.length := by rw [size_len, hp]; simp
    refine evSucc ?_
    simp only [lockkeeperref1_Digits.l0]
    refine evNeg (by omega) (evEq (Ev.now _) ?_)
    rw [digGo, hp, hl]
    cases p with
    | nil => rfl
    | cons c p => simp
  | cons c r ih =>
    intro p n hp
    have hl : s.size = p.length + (r.length + 1) := by rw [size_len, hp]; simp
    have hb := bt_mid s p c r hp
    have e2 : wrap64 ((p.length : Int) + 1) = ((p ++ [c]).length : Int) := by simp; unfold wrap64; omega
    have hj : ∀ x : Bool, x = !isDig c → Ev (fun k => lockkeeperref1_Digits.j1 k s n (p.length : Int) x) (match digGo n (c :: r) with | some n => (n, s.data.toList != []) | none => (0, false)) := by
      intro x hx
      refine evSucc ?_
      simp only [lockkeeperref1_Digits.j1, hb, e2]
      rw [digGo, hx]
      cases hd : isDig c with
      | false => exact evPos rfl (evEq (Ev.now _) (by simp))
      | true =>
        have := ih (p ++ [c]) (digStep n c) (by simpa using hp)
        simp only [if_true]
        refine evNeg (by decide) (evPos (by omega) (evPos (by omega) ?_))
        by_cases hg : n > (18446744073709551615 - (((c.toNat : Int) - 48) % 256)) / 10
        · refine evPos hg ?_
          rw [show digStep n c = 18446744073709551615 by unfold digStep; rw [if_pos hg]] at this ⊢
          exact this
        · refine evNeg hg ?_
          rw [show digStep n c = IntKind.u64.wrap ((IntKind.u64.wrap (n * 10)) + (((c.toNat : Int) - 48) % 256)) by unfold digStep; rw [if_neg hg]] at this ⊢
          rw [show (10 : Int) * n = n * 10 by omega]
          exact this
    refine evSucc ?_
    simp only [lockkeeperref1_Digits.l0, hb]
    refine evPos (by omega) (evPos (by omega) ?_)
    by_cases h : (c.toNat : Int) < 48
    · exact evPos h (hj true (by unfold isDig; simp; omega))
    · refine evNeg h (hj _ ?_)
      unfold isDig
      rw [show decide ((c.toNat : Int) ≥ 48) = true by simp; omega, Bool.true_and, Bool.eq_iff_iff]
      simp
theorem rdig_ev (s : ByteArray) (hs : s.size ≤ 4611686018427387904) : Ev (fun k => lockkeeperref1_Digits.f k s) (digS s) := by
  have := rdig_l0 s hs s.data.toList [] 0 rfl
  exact evEq this (by unfold digS; cases digGo 0 s.data.toList <;> rfl)
theorem in_l0 (s : ByteArray) (c : UInt8) (hs : s.size ≤ 4611686018427387904) (r : Bs) : ∀ p : Bs, s.data.toList = p ++ r → Ev (fun k => lockkeeperref1_In.l0 k (c.toNat : Int) s (p.length : Int)) (r.contains c) := by
  induction r with
  | nil =>
    intro p hp
    have hl : s.size = p.length := by rw [size_len, hp]; simp
    refine evSucc ?_
    simp only [lockkeeperref1_In.l0]
    exact evNeg (by omega) (Ev.now _)
  | cons b r ih =>
    intro p hp
    have hl : s.size = p.length + (r.length + 1) := by rw [size_len, hp]; simp
    have hb := bt_mid s p b r hp
    have e2 : wrap64 ((p.length : Int) + 1) = ((p ++ [b]).length : Int) := by simp; unfold wrap64; omega
    refine evSucc ?_
    simp only [lockkeeperref1_In.l0, hb, e2]
    refine evPos (by omega) (evPos (by omega) ?_)
    rw [List.contains_cons]
    by_cases h : b = c
    · subst h
      exact evPos rfl (evEq (Ev.now _) (by simp))
    · have hn : ¬ (b.toNat : Int) = (c.toNat : Int) := fun e => h (UInt8.toNat_inj.1 (by omega))
      have hc : (c == b) = false := by simpa using fun e => h e.symm
      refine evNeg hn (evEq (ih (p ++ [b]) (by simpa using hp)) ?_)
      rw [hc, Bool.false_or]
theorem in_ev (s : ByteArray) (c : UInt8) (hs : s.size ≤ 4611686018427387904) : Ev (fun k => lockkeeperref1_In.f k (c.toNat : Int) s) (s.data.toList.contains c) := in_l0 s c hs s.data.toList [] rfl
theorem rlower_f (s : ByteArray) (h : s.size ≤ 9223372036854775807) : lockkeeperref1_Lower.f s = some (lowB s) := by
  unfold lockkeeperref1_Lower.f
  rw [if_pos h, lowS_eq]
  rfl
theorem cutS_at (s : ByteArray) (p r : Bs) (c : UInt8) (hs : s.data.toList = p ++ c :: r) (h : c ∉ p) : cutS s ⟨#[c]⟩ = (bsOf p, bsOf r, true) := by
  unfold cutS Lib.cut
  have e : Lib.index s.data.toList (⟨#[c]⟩ : ByteArray).data.toList = (p.length : Int) := by
    rw [hs]
    exact (Lib.index_one _ _).trans (indexByte_at p r c h)
  rw [e, if_pos (by omega), hs]
  simp
theorem cutS_not (s : ByteArray) (c : UInt8) (h : c ∉ s.data.toList) : cutS s ⟨#[c]⟩ = (s, ⟨#[]⟩, false) := by
  unfold cutS Lib.cut
  have e : Lib.index s.data.toList (⟨#[c]⟩ : ByteArray).data.toList = -1 := (Lib.index_one _ _).trans (indexByte_not _ c h)
  rw [e, if_neg (by omega)]
  simp only [bsOf_of]
  rfl
theorem cut_f (s sep : ByteArray) (hs : s.size < 4294967281) : strings_Cut.f s sep = some (cutS s sep) := by
  unfold strings_Cut.f
  rw [if_pos hs]
theorem cutS_size (s sep : ByteArray) : (cutS s sep).1.size ≤ s.size ∧ (cutS s sep).2.1.size ≤ s.size := by
  have e := size_len s
  unfold cutS Lib.cut
  split
  · simp only [size_bsOf, List.length_take, List.length_drop]
    omega
  · simp only [size_bsOf, List.length_nil]
    omega
theorem split1_f (s : ByteArray) (c : UInt8) (h : s.size < 4294967281) : strings_Split.f s ⟨#[c]⟩ = some (splitL s ⟨#[c]⟩) := by
  unfold strings_Split.f
  rw [if_pos ⟨h, rfl⟩]
theorem splitL_bs (s : ByteArray) (c : UInt8) : splitL s ⟨#[c]⟩ = (splitC c s.data.toList).map bsOf := by
  have := splitL_data c _ s rfl
  have h2 := congrArg (List.map bsOf) this
  rw [List.map_map] at h2
  rw [← h2]
  simp [splitL, Function.comp_def, bsOf_of]
theorem splitC_count (c : UInt8) (l : Bs) : (splitC c l).length ≤ l.length + 1 := by
  induction l with
  | nil => simp [splitC]
  | cons b l ih =>
    rw [splitC]
    split
    · simpa using ih
    · split
      · simp
      · rename_i x xs e; rw [e] at ih; simp at ih ⊢; omega
theorem splitC_mem (c : UInt8) (l : Bs) : ∀ y ∈ splitC c l, (∀ d ∈ y, d ∈ l ∧ d ≠ c) ∧ y.length ≤ l.length := by
  induction l with
  | nil => intro y hy; rw [splitC, List.mem_singleton] at hy; subst hy; exact ⟨by simp, by simp⟩
  | cons b l ih =>
    intro y hy
    rw [splitC] at hy
    by_cases hb : b = c
    · rw [if_pos hb] at hy
      rcases List.mem_cons.1 hy with rfl | hy
      · exact ⟨by simp, by simp⟩
      · have := ih y hy
        exact ⟨fun d hd => ⟨List.mem_cons_of_mem _ (this.1 d hd).1, (this.1 d hd).2⟩, by simp; omega⟩
    · rw [if_neg hb] at hy
      cases h : splitC c l with
      | nil => exact absurd h (splitC_ne c l)
      | cons x xs =>
        rw [h] at hy
        rcases List.mem_cons.1 hy with rfl | hy
        · have := ih x (by rw [h]; simp)
          refine ⟨fun d hd => ?_, by simp; omega⟩
          rcases List.mem_cons.1 hd with rfl | hd
          · exact ⟨by simp, hb⟩
          · exact ⟨List.mem_cons_of_mem _ (this.1 d hd).1, (this.1 d hd).2⟩
        · have := ih y (by rw [h]; simp [hy])
          exact ⟨fun d hd => ⟨List.mem_cons_of_mem _ (this.1 d hd).1, (this.1 d hd).2⟩, by simp; omega⟩
theorem dec_numL (n : Nat) : Lib.decDigits n = numL n := by
  induction n using Nat.strongRecOn with
  | _ n ih =>
    rw [Lib.decDigits, numL]
    by_cases h : n < 10
    · rw [dif_pos h, dif_neg (by omega)]
    · rw [dif_neg h, dif_pos (by omega), ih (n / 10) (by omega)]
theorem itoa_f (n : Nat) (h : n ≤ 9223372036854775807) : strconv_Itoa.f (n : Int) = some (bsOf (numL n)) := by
  unfold strconv_Itoa.f
  rw [if_pos ⟨by omega, by omega⟩]
  unfold Lib.itoa
  rw [if_neg (by omega), Int.toNat_natCast, dec_numL]
theorem numL_head (n : Nat) (h : 1 ≤ n) : ∃ c l, numL n = c :: l ∧ c ≠ 48 := by
  induction n using Nat.strongRecOn with
  | _ n ih =>
    by_cases h9 : n > 9
    · obtain ⟨c, l, e, hc⟩ := ih (n / 10) (by omega) (by omega)
      exact ⟨c, l ++ [UInt8.ofNat (48 + n % 10)], by rw [numL_great h9, e]; rfl, hc⟩
    · refine ⟨UInt8.ofNat (48 + n), [], numL_small h9, fun e => ?_⟩
      have := congrArg UInt8.toNat e
      rw [num_char n (by omega)] at this
      have h48 : (48 : UInt8).toNat = 48 := rfl
      omega
theorem lowL_id (l : Bs) (h : ∀ c ∈ l, lowC c = c) : lowL l = l := by
  unfold lowL
  conv => rhs; rw [← List.map_id l]
  exact List.map_congr_left h
def defP (s : ByteArray) : Int := if s.toList = ([104, 116, 116, 112] : List UInt8) then 80 else if s.toList = ([104, 116, 116, 112, 115] : List UInt8) then 443 else 0
theorem def_f (s : ByteArray) : origin_Default.f s = some (defP s) := by
  unfold origin_Default.f defP
  split
  · rfl
  · split <;> rfl
def labC (c : UInt8) : Bool := decide ((97 ≤ c.toNat ∧ c.toNat ≤ 122) ∨ (48 ≤ c.toNat ∧ c.toNat ≤ 57) ∨ c.toNat = 45)
theorem lab_if (c : UInt8) (X : Nat → Option Bool) (r : Bool) (hX : Ev X r) :
    Ev (fun k => if (c.toNat : Int) < 97 then (if (c.toNat : Int) < 48 then (if (c.toNat : Int) = 45 then X k else some false) else (if (c.toNat : Int) > 57 then (if (c.toNat : Int) = 45 then X k else some false) else X k)) else (if (c.toNat : Int) > 122 then (if (c.toNat : Int) < 48 then (if (c.toNat : Int) = 45 then X k else some false) else (if (c.toNat : Int) > 57 then (if (c.toNat : Int) = 45 then X k else some false) else X k)) else X k)) (labC c && r) := by
  have yes : ((97 ≤ c.toNat ∧ c.toNat ≤ 122) ∨ (48 ≤ c.toNat ∧ c.toNat ≤ 57) ∨ c.toNat = 45) → Ev X (labC c && r) := fun h => by
    unfold labC
    rw [decide_eq_true h, Bool.true_and]
    exact hX
  have no : ¬ ((97 ≤ c.toNat ∧ c.toNat ≤ 122) ∨ (48 ≤ c.toNat ∧ c.toNat ≤ 57) ∨ c.toNat = 45) → Ev (fun _ : Nat => some false) (labC c && r) := fun h => by
    unfold labC
    rw [decide_eq_false h, Bool.false_and]
    exact Ev.now _
  by_cases h1 : (c.toNat : Int) < 97
  · refine evPos h1 ?_
    by_cases h2 : (c.toNat : Int) < 48
    · refine evPos h2 ?_
      by_cases h3 : (c.toNat : Int) = 45
      · exact evPos h3 (yes (by omega))
      · exact evNeg h3 (no (by omega))
    · refine evNeg h2 ?_
      by_cases h3 : (c.toNat : Int) > 57
      · exact evPos h3 (evNeg (by omega) (no (by omega)))
      · exact evNeg h3 (yes (by omega))
  · refine evNeg h1 ?_
    by_cases h2 : (c.toNat : Int) > 122
    · exact evPos h2 (evNeg (by omega) (evPos (by omega) (evNeg (by omega) (no (by omega)))))
    · exact evNeg h2 (yes (by omega))
def labB (s : ByteArray) : Bool := if (s.size : Int) < 1 then false else if (s.size : Int) > 63 then false else if bt s 0 = 45 then false else if bt s ((s.size - 1 : Nat) : Int) = 45 then false else s.data.toList.all labC
theorem label_l0 (s : ByteArray) (hs : s.size ≤ 4611686018427387904) (r : Bs) : ∀ p : Bs, s.data.toList = p ++ r → Ev (fun k => origin_isLabel.l0 k s (s.size : Int) (p.length : Int)) (r.all labC) := by
  induction r with
  | nil =>
    intro p hp
    have hl : s.size = p.length := by rw [size_len, hp]; simp
    refine evSucc ?_
    simp only [origin_isLabel.l0]
    exact evNeg (by omega) (Ev.now _)
  | cons c r ih =>
    intro p hp
    have hl : s.size = p.length + (r.length + 1) := by rw [size_len, hp]; simp
    have hb := bt_mid s p c r hp
    have e2 : wrap64 ((p.length : Int) + 1) = ((p ++ [c]).length : Int) := by simp; unfold wrap64; omega
    have ih' := ih (p ++ [c]) (by rw [hp]; simp)
    refine evSucc ?_
    simp only [origin_isLabel.l0, hb, e2]
    rw [List.all_cons]
    exact evPos (by omega) (evPos (by omega) (evPos (by omega) (lab_if c _ _ ih')))
theorem label_ev (s : ByteArray) (hs : s.size ≤ 4611686018427387904) : Ev (fun k => origin_isLabel.f k s) (labB s) := by
  have jt : Ev (fun k => origin_isLabel.j0 k s true) false := by
    refine evSucc ?_
    simp only [origin_isLabel.j0, if_true]
    exact Ev.now _
  unfold origin_isLabel.f labB
  refine evIte (fun _ => jt) fun h1 => evIte (fun _ => jt) fun h2 => evPos (by omega) (evIte (fun _ => jt) fun h3 => ?_)
  have e1 : wrap64 ((s.size : Int) - 1) = ((s.size - 1 : Nat) : Int) := by unfold wrap64; omega
  rw [e1]
  refine evPos (by omega) (evPos (by omega) ?_)
  by_cases h4 : bt s ((s.size - 1 : Nat) : Int) = 45
  · rw [h4, if_pos rfl]
    exact jt
  · rw [if_neg h4, show (bt s ((s.size - 1 : Nat) : Int) == 45) = false by simpa using h4]
    refine evSucc ?_
    simp only [origin_isLabel.j0, Bool.false_eq_true, if_false]
    exact label_l0 s hs s.data.toList [] rfl
def hostB (s : ByteArray) : Bool := if (s.size : Int) > 253 then false else ((splitC 46 s.data.toList).map bsOf).all labB
theorem host_l0 (L : List ByteArray) (hL : L.length ≤ 1000000) (hs : ∀ x ∈ L, x.size ≤ 1000000) : ∀ n i, i + n = L.length → Ev (fun k => origin_isHost.l0 k L (L.length : Int) (i : Int)) ((L.drop i).all labB) := by
  intro n
  induction n with
  | zero =>
    intro i hi
    rw [List.drop_of_length_le (by omega), List.all_nil]
    refine evSucc ?_
    simp only [origin_isHost.l0]
    exact evNeg (by omega) (Ev.now _)
  | succ n ih =>
    intro i hi
    have hlt : i < L.length := by omega
    have e2 : wrap64 ((i : Int) + 1) = ((i + 1 : Nat) : Int) := by unfold wrap64; omega
    have hz := hs _ (List.getElem_mem hlt)
    rw [List.drop_eq_getElem_cons hlt, List.all_cons]
    refine evSucc ?_
    simp only [origin_isHost.l0, e2]
    rw [rdOf_get _ _ hlt]
    refine evPos (by omega) (evPos (by omega) (evPos (by omega) (Ev.bind (label_ev _ (by omega)) ?_)))
    cases labB L[i] with
    | true => rw [Bool.true_and]; exact evPos rfl (ih (i + 1) (by omega))
    | false => rw [Bool.false_and]; exact evNeg (by decide) (Ev.now _)
theorem host_ev (s : ByteArray) (hs : s.size ≤ 100000) : Ev (fun k => origin_isHost.f k s) (hostB s) := by
  unfold origin_isHost.f hostB
  refine evIte (fun _ => Ev.now _) fun h => evBind (split1_f s 46 (by omega)) ?_
  rw [splitL_bs]
  have h1 := splitC_count 46 s.data.toList
  rw [← size_len] at h1
  have := host_l0 ((splitC 46 s.data.toList).map bsOf) (by simp; omega) (fun x hx => by
    obtain ⟨y, hy, rfl⟩ := List.mem_map.1 hx
    have := (splitC_mem 46 _ y hy).2
    rw [size_bsOf]
    rw [← size_len] at this
    omega) ((splitC 46 s.data.toList).map bsOf).length 0 (by omega)
  simpa using this
def chkS (a b : ByteArray) (p : Int) : Bool := if defP a = 0 then false else if hostB b = true then (if p ≥ 1 then decide (p ≤ 65535) else false) else false
theorem chk_ev (a b : ByteArray) (p : Int) (hb : b.size ≤ 100000) : Ev (fun k => origin_Check.f k a b p) (chkS a b p) := by
  unfold origin_Check.f chkS
  exact evBind (def_f a) (evIte (fun _ => Ev.now _) fun _ => Ev.bind (host_ev b hb) (evIte (fun _ => evIte (fun _ => Ev.now _) fun _ => Ev.now _) fun _ => Ev.now _))
theorem digStep_nonneg (n : Int) (c : UInt8) : 0 ≤ digStep n c := by
  unfold digStep
  split
  · omega
  · rw [show ∀ x : Int, IntKind.u64.wrap x = x % 18446744073709551616 from fun x => by simp [IntKind.wrap, IntKind.bits, IntKind.signed]]
    omega
theorem digGo_nonneg (l : Bs) : ∀ n v, 0 ≤ n → digGo n l = some v → 0 ≤ v := by
  induction l with
  | nil => intro n v h0 h; rw [digGo] at h; injection h with h; omega
  | cons c l ih =>
    intro n v h0 h
    rw [digGo] at h
    split at h
    · exact ih _ v (digStep_nonneg n c) h
    · cases h
theorem digS_nonneg (s : ByteArray) : 0 ≤ (digS s).1 := by
  unfold digS
  cases h : digGo 0 s.data.toList with
  | none => simp
  | some v => exact digGo_nonneg _ 0 v (by omega) h
theorem digS_pos (s : ByteArray) (h : (digS s).2 = true) : 0 < s.size := by
  rw [size_len]
  unfold digS at h
  cases hg : digGo 0 s.data.toList with
  | none => rw [hg] at h; cases h
  | some v =>
    rw [hg] at h
    cases hl : s.data.toList with
    | nil => rw [hl] at h; simp at h
    | cons c l => simp
def portS (s : ByteArray) : Int := if (digS s).2 = true then (if (s.size : Int) > 5 then 0 else if bt s 0 = 48 then 0 else if (digS s).1 > 65535 then 0 else (digS s).1) else 0
theorem port_ev (s : ByteArray) (hs : s.size ≤ 100000) : Ev (fun k => origin_port.f k s) (portS s) := by
  unfold origin_port.f portS
  refine Ev.bind (digits_ev s (by omega)) (evIte (fun h => evIte (fun _ => Ev.now _) fun _ => evPos (by have := digS_pos s h; omega) (evIte (fun _ => Ev.now _) fun _ => evIte (fun _ => Ev.now _) fun h5 => evEq (Ev.now _) ?_)) fun _ => Ev.now _)
  have h0 := digS_nonneg s
  unfold wrap64
  omega
abbrev OT : Type := ByteArray × ByteArray × Int × Int
def sSep : ByteArray := (⟨#[58, 47, 47]⟩ : ByteArray)
def sCol : ByteArray := (⟨#[58]⟩ : ByteArray)
def noO : OT := (⟨#[]⟩, ⟨#[]⟩, 0, 3)
def madeS (a b : ByteArray) (p : Int) : OT := if chkS a b p = true then (a, b, p, 0) else noO
def parseS (s : ByteArray) : OT :=
  if (s.size : Int) > 512 then (⟨#[]⟩, ⟨#[]⟩, 0, 4)
  else if (cutS (lowB s) sSep).2.2 = true then
    (if (cutS (cutS (lowB s) sSep).2.1 sCol).2.2 = true then madeS (cutS (lowB s) sSep).1 (cutS (cutS (lowB s) sSep).2.1 sCol).1 (portS (cutS (cutS (lowB s) sSep).2.1 sCol).2.1)
     else madeS (cutS (lowB s) sSep).1 (cutS (cutS (lowB s) sSep).2.1 sCol).1 (defP (cutS (lowB s) sSep).1))
  else noO
theorem parse_ev (s : ByteArray) (hs : s.size ≤ 4294967280) : Ev (fun k => origin_Parse.f k s) (parseS s) := by
  unfold origin_Parse.f parseS
  refine evIte (fun _ => Ev.now _) fun h => ?_
  have e1 := lowB_size s
  have c1 := cutS_size (lowB s) sSep
  have c2 := cutS_size (cutS (lowB s) sSep).2.1 sCol
  refine evBind (lower_f s (by omega)) (evBind (cut_f (lowB s) sSep (by omega)) (evIte (fun _ => evBind (cut_f _ sCol (by omega)) (evBind (def_f _) (evIte (fun _ => Ev.bind (port_ev _ (by omega)) (Ev.bind (chk_ev _ _ _ (by omega)) ?_)) fun _ => Ev.bind (chk_ev _ _ _ (by omega)) ?_))) fun _ => Ev.now _))
  · unfold madeS
    exact evIte (fun _ => Ev.now _) fun _ => Ev.now _
  · unfold madeS
    exact evIte (fun _ => Ev.now _) fun _ => Ev.now _
def keyS (a b : ByteArray) (p : Int) : ByteArray := if chkS a b p = true then a ++ sSep ++ b ++ sCol ++ bsOf (numL p.toNat) else ⟨#[]⟩
def showS (a b : ByteArray) (p : Int) : ByteArray := if chkS a b p = true then (if p = defP a then a ++ sSep ++ b else keyS a b p) else keyS a b p
theorem chk_port {a b : ByteArray} {p : Int} (h : chkS a b p = true) : 1 ≤ p ∧ p ≤ 65535 := by
  unfold chkS at h
  split at h
  · cases h
  · split at h
    · split at h
      · rename_i h1; exact ⟨by omega, of_decide_eq_true h⟩
      · cases h
    · cases h
theorem key_ev (a b : ByteArray) (p : Int) (ha : a.size ≤ 100000) (hb : b.size ≤ 100000) : Ev (fun k => origin_Key.f k a b p) (keyS a b p) := by
  unfold origin_Key.f keyS
  refine Ev.bind (chk_ev a b p hb) (evIte (fun h => ?_) fun _ => Ev.now _)
  obtain ⟨p1, p2⟩ := chk_port h
  obtain ⟨n, rfl⟩ := Int.eq_ofNat_of_zero_le (show 0 ≤ p by omega)
  have z1 : (a ++ sSep).size = a.size + 3 := by rw [ByteArray.size_append]; rfl
  have z2 : (a ++ sSep ++ b).size = a.size + 3 + b.size := by rw [ByteArray.size_append, z1]
  have z3 : (a ++ sSep ++ b ++ sCol).size = a.size + 3 + b.size + 1 := by rw [ByteArray.size_append, z2]; rfl
  have hl := numL_length 19 n (by omega)
  have z4 : (bsOf (numL n)).size = (numL n).length := size_bsOf _
  refine evPos (by omega) (evPos (by show (a ++ sSep).size + b.size ≤ _; omega) (evPos (by show (a ++ sSep ++ b).size + 1 ≤ _; omega) (evBind (itoa_f n (by omega)) (evPos (by show (a ++ sSep ++ b ++ sCol).size + _ ≤ _; omega) (Ev.now _)))))
theorem show_ev (a b : ByteArray) (p : Int) (ha : a.size ≤ 100000) (hb : b.size ≤ 100000) : Ev (fun k => origin_Show.f k a b p) (showS a b p) := by
  unfold origin_Show.f showS
  have z1 : (a ++ sSep).size = a.size + 3 := by rw [ByteArray.size_append]; rfl
  refine Ev.bind (chk_ev a b p hb) (evIte (fun h => evBind (def_f a) (evIte (fun _ => evPos (by omega) (evPos (by show (a ++ sSep).size + b.size ≤ _; omega) (Ev.now _))) fun _ => Ev.bind (key_ev a b p ha hb) (Ev.now _))) fun _ => Ev.bind (key_ev a b p ha hb) (Ev.now _))
theorem splitC_chars (c : UInt8) (P : UInt8 → Prop) (l : Bs) (h : ∀ y ∈ splitC c l, ∀ d ∈ y, P d) : ∀ d ∈ l, d = c ∨ P d := by
  induction l with
  | nil => intro d hd; cases hd
  | cons b l ih =>
    rw [splitC] at h
    by_cases hb : b = c
    · rw [if_pos hb] at h
      intro d hd
      rcases List.mem_cons.1 hd with rfl | hd
      · exact .inl hb
      · exact ih (fun y hy => h y (by simp [hy])) d hd
    · rw [if_neg hb] at h
      cases hs : splitC c l with
      | nil => exact absurd hs (splitC_ne c l)
      | cons x xs =>
        rw [hs] at h ih
        have h1 := h (b :: x) (by simp)
        intro d hd
        rcases List.mem_cons.1 hd with rfl | hd
        · exact .inr (h1 d (by simp))
        · refine ih (fun y hy => ?_) d hd
          rcases List.mem_cons.1 hy with rfl | hy
          · exact fun e he => h1 e (by simp [he])
          · exact h y (by simp [hy])
theorem host_chars {s : ByteArray} (h : hostB s = true) : s.size ≤ 253 ∧ ∀ d ∈ s.data.toList, d = 46 ∨ labC d = true := by
  unfold hostB at h
  split at h
  · cases h
  · rename_i h1
    refine ⟨by omega, splitC_chars 46 (fun d => labC d = true) _ fun y hy d hd => ?_⟩
    have := List.all_eq_true.1 h (bsOf y) (List.mem_map.2 ⟨y, hy, rfl⟩)
    unfold labB at this
    repeat' split at this
    all_goals first | cases this | exact List.all_eq_true.1 this d hd
theorem chk_def {a b : ByteArray} {p : Int} (h : chkS a b p = true) : (a.data.toList = ([104, 116, 116, 112] : List UInt8) ∨ a.data.toList = ([104, 116, 116, 112, 115] : List UInt8)) ∧ hostB b = true := by
  unfold chkS at h
  split at h
  · cases h
  · rename_i h1
    split at h
    · rename_i h2
      refine ⟨?_, h2⟩
      unfold defP at h1
      split at h1
      · rename_i h3; exact .inl (by rw [← h3, tl])
      · split at h1
        · rename_i h3; exact .inr (by rw [← h3, tl])
        · exact absurd rfl h1
    · cases h
theorem lab_low (d : UInt8) (h : d = 46 ∨ labC d = true) : lowC d = d ∧ d ≠ 58 := by
  have hn : ¬ (65 ≤ d.toNat ∧ d.toNat ≤ 90) ∧ d.toNat ≠ 58 := by
    rcases h with rfl | h
    · decide
    · have := of_decide_eq_true h
      omega
  refine ⟨?_, fun e => hn.2 (by rw [e]; rfl)⟩
  unfold lowC
  rw [if_neg]
  intro h2
  exact hn.1 (by simpa [UInt8.le_iff_toNat_le] using h2)
theorem num_low (d : UInt8) (h : isNum d) : lowC d = d ∧ d ≠ 58 := by
  refine ⟨?_, fun e => ?_⟩
  · unfold lowC
    rw [if_neg]
    intro h2
    have : 65 ≤ d.toNat := by simpa [UInt8.le_iff_toNat_le] using h2.1
    unfold isNum at h
    omega
  · subst e
    unfold isNum at h
    have : (58 : UInt8).toNat = 58 := rfl
    omega
theorem cut_sep (s : ByteArray) (A R : Bs) (hA : A = ([104, 116, 116, 112] : List UInt8) ∨ A = ([104, 116, 116, 112, 115] : List UInt8)) (hs : s.data.toList = A ++ (([58, 47, 47] : List UInt8) ++ R)) : cutS s sSep = (bsOf A, bsOf R, true) := by
  unfold cutS Lib.cut
  rw [hs]
  have hsep : sSep.data.toList = ([58, 47, 47] : List UInt8) := rfl
  rw [hsep]
  rcases hA with rfl | rfl
  · have e : Lib.index (([104, 116, 116, 112] : List UInt8) ++ (([58, 47, 47] : List UInt8) ++ R)) ([58, 47, 47] : List UInt8) = 4 := by simp [Lib.index, List.isPrefixOf]
    rw [e]
    rfl
  · have e : Lib.index (([104, 116, 116, 112, 115] : List UInt8) ++ (([58, 47, 47] : List UInt8) ++ R)) ([58, 47, 47] : List UInt8) = 5 := by simp [Lib.index, List.isPrefixOf]
    rw [e]
    rfl
theorem low_all (s : ByteArray) (h : ∀ c ∈ s.data.toList, lowC c = c) : lowB s = s := by
  apply ba_ext
  rw [lowB_data, lowL_id _ h]
theorem low_sch (A : Bs) (hA : A = ([104, 116, 116, 112] : List UInt8) ∨ A = ([104, 116, 116, 112, 115] : List UInt8)) : ∀ c ∈ A ++ ([58, 47, 47] : List UInt8), lowC c = c := by
  rcases hA with rfl | rfl <;> decide
theorem portS_num (n : Nat) (h1 : 1 ≤ n) (h2 : n ≤ 65535) : portS (bsOf (numL n)) = n := by
  have hd : digS (bsOf (numL n)) = ((n : Int), true) := by
    rw [digS_L, bsOf_data]
    exact digL_num 0 n (by omega)
  obtain ⟨c, l, e, hc⟩ := numL_head n h1
  have hl := numL_length 4 n (by omega)
  have hb : bt (bsOf (numL n)) 0 = (c.toNat : Int) := bt_mid (bsOf (numL n)) [] c l (by rw [bsOf_data, e]; rfl)
  unfold portS
  rw [hd, if_pos rfl, if_neg (by rw [size_bsOf]; omega), if_neg, if_neg (by show ¬ (n : Int) > 65535; omega)]
  rw [hb]
  intro h
  refine hc (UInt8.toNat_inj.1 ?_)
  have : (48 : UInt8).toNat = 48 := rfl
  omega
theorem parse_key {a b : ByteArray} {p : Int} (h : chkS a b p = true) : parseS (keyS a b p) = (a, b, p, 0) := by
  obtain ⟨ha, hb⟩ := chk_def h
  obtain ⟨hz, hch⟩ := host_chars hb
  obtain ⟨p1, p2⟩ := chk_port h
  obtain ⟨n, rfl⟩ := Int.eq_ofNat_of_zero_le (show 0 ≤ p by omega)
  have hl := numL_length 4 n (by omega)
  have hd : (keyS a b (n : Int)).data.toList = a.data.toList ++ (([58, 47, 47] : List UInt8) ++ (b.data.toList ++ 58 :: numL n)) := by
    unfold keyS
    rw [if_pos h, append_list, append_list, append_list, append_list]
    show ((a.data.toList ++ ([58, 47, 47] : List UInt8)) ++ b.data.toList ++ [58]) ++ numL n = _
    simp
  have hlow : lowB (keyS a b (n : Int)) = keyS a b (n : Int) := by
    refine low_all _ fun c hc => ?_
    rw [hd, ← List.append_assoc] at hc
    rcases List.mem_append.1 hc with hc | hc
    · exact low_sch _ ha c hc
    · rcases List.mem_append.1 hc with hc | hc
      · exact (lab_low c (hch c hc)).1
      · rcases List.mem_cons.1 hc with rfl | hc
        · decide
        · exact (num_low c (numL_chars n c hc)).1
  have hsz : (keyS a b (n : Int)).size ≤ 512 := by
    rw [size_len, hd]
    have : a.data.toList.length ≤ 5 := by rcases ha with e | e <;> rw [e] <;> decide
    rw [← size_len] at this
    simp
    omega
  have c1 := cut_sep (keyS a b (n : Int)) _ _ ha hd
  have c2 : cutS (bsOf (b.data.toList ++ 58 :: numL n)) sCol = (bsOf b.data.toList, bsOf (numL n), true) :=
    cutS_at _ _ _ 58 rfl (fun hm => (lab_low 58 (hch 58 hm)).2 rfl)
  unfold parseS
  rw [if_neg (by omega), hlow, c1]
  dsimp only
  rw [if_pos rfl, c2]
  dsimp only
  rw [if_pos rfl, bsOf_of, bsOf_of, portS_num n (by omega) (by omega)]
  unfold madeS
  rw [if_pos h]
theorem parse_show {a b : ByteArray} {p : Int} (h : chkS a b p = true) : parseS (showS a b p) = (a, b, p, 0) := by
  by_cases hp : p = defP a
  · obtain ⟨ha, hb⟩ := chk_def h
    obtain ⟨hz, hch⟩ := host_chars hb
    have e : showS a b p = a ++ sSep ++ b := by unfold showS; rw [if_pos h, if_pos hp]
    have hd : (a ++ sSep ++ b).data.toList = a.data.toList ++ (([58, 47, 47] : List UInt8) ++ b.data.toList) := by
      rw [append_list, append_list]
      show (a.data.toList ++ ([58, 47, 47] : List UInt8)) ++ b.data.toList = _
      simp
    have hlow : lowB (a ++ sSep ++ b) = a ++ sSep ++ b := by
      refine low_all _ fun c hc => ?_
      rw [hd, ← List.append_assoc] at hc
      rcases List.mem_append.1 hc with hc | hc
      · exact low_sch _ ha c hc
      · exact (lab_low c (hch c hc)).1
    have hsz : (a ++ sSep ++ b).size ≤ 512 := by
      rw [size_len, hd]
      have : a.data.toList.length ≤ 5 := by rcases ha with e | e <;> rw [e] <;> decide
      rw [← size_len] at this
      simp
      omega
    have c1 := cut_sep (a ++ sSep ++ b) _ _ ha hd
    have c2 : cutS (bsOf b.data.toList) sCol = (bsOf b.data.toList, ⟨#[]⟩, false) := cutS_not _ 58 (fun hm => (lab_low 58 (hch 58 hm)).2 rfl)
    rw [e]
    unfold parseS
    rw [if_neg (by omega), hlow, c1]
    dsimp only
    rw [if_pos rfl, c2]
    dsimp only
    rw [if_neg (by decide), bsOf_of, bsOf_of, ← hp]
    unfold madeS
    rw [if_pos h]
  · have e : showS a b p = keyS a b p := by unfold showS; rw [if_pos h, if_neg hp]
    rw [e]
    exact parse_key h
theorem chk_size {a b : ByteArray} {p : Int} (h : chkS a b p = true) : (showS a b p).size ≤ 1000 ∧ (keyS a b p).size ≤ 1000 := by
  have h1 := parse_show h
  have h2 := parse_key h
  refine ⟨?_, ?_⟩
  · rcases Nat.lt_or_ge 1000 (showS a b p).size with hg | hg
    · unfold parseS at h1
      rw [if_pos (by omega)] at h1
      have := congrArg (fun o : OT => o.2.2.2) h1
      cases this
    · exact hg
  · rcases Nat.lt_or_ge 1000 (keyS a b p).size with hg | hg
    · unfold parseS at h2
      rw [if_pos (by omega)] at h2
      have := congrArg (fun o : OT => o.2.2.2) h2
      cases this
    · exact hg
theorem parse_sizes (s : ByteArray) (hs : s.size ≤ 100000) : (parseS s).1.size ≤ 100000 ∧ (parseS s).2.1.size ≤ 100000 := by
  have e1 := lowB_size s
  have c1 := cutS_size (lowB s) sSep
  have c2 := cutS_size (cutS (lowB s) sSep).2.1 sCol
  have z : (⟨#[]⟩ : ByteArray).size = 0 := rfl
  have hm : ∀ a b p, a.size ≤ 100000 → b.size ≤ 100000 → (madeS a b p).1.size ≤ 100000 ∧ (madeS a b p).2.1.size ≤ 100000 := by
    intro a b p ha hb
    unfold madeS noO
    split
    · exact ⟨ha, hb⟩
    · exact ⟨by dsimp only; omega, by dsimp only; omega⟩
  unfold parseS noO
  split
  · exact ⟨by dsimp only; omega, by dsimp only; omega⟩
  · split
    · split
      · exact hm _ _ _ (by omega) (by omega)
      · exact hm _ _ _ (by omega) (by omega)
    · exact ⟨by dsimp only; omega, by dsimp only; omega⟩
theorem def3_f (s : ByteArray) : lockkeeperref3_Default.f s = some (defP s) := by
  unfold lockkeeperref3_Default.f defP
  split
  · rfl
  · split <;> rfl
theorem bt_sub (s : ByteArray) (p q r : Bs) (hs : s.data.toList = p ++ (q ++ r)) (j : Nat) (hj : j < q.length) : bt s ((p.length + j : Nat) : Int) = bt (bsOf q) (j : Int) := by
  have hl : s.size = p.length + (q.length + r.length) := by rw [size_len, hs]; simp
  rw [bt_get s _ (by omega), bt_get (bsOf q) j (by rw [size_bsOf]; exact hj), hs, bsOf_data]
  congr 2
  simp [List.getD_eq_getElem?_getD, List.getElem?_append_right, List.getElem?_append_left, hj]
def hostV (q r : Bs) : Bool := match splitC 46 r with
  | [] => true
  | x :: xs => labB (bsOf (q ++ x)) && (xs.map bsOf).all labB
theorem hostV_dot (q r : Bs) : hostV q (46 :: r) = (labB (bsOf q) && hostV [] r) := by
  unfold hostV
  rw [splitC, if_pos rfl]
  cases h : splitC 46 r with
  | nil => exact absurd h (splitC_ne 46 r)
  | cons x xs => simp
theorem hostV_cons (q r : Bs) (c : UInt8) (h : c ≠ 46) : hostV q (c :: r) = hostV (q ++ [c]) r := by
  unfold hostV
  rw [splitC, if_neg h]
  cases h : splitC 46 r with
  | nil => exact absurd h (splitC_ne 46 r)
  | cons x xs => simp
theorem labB_bad (q x : Bs) (c : UInt8) (h : labC c = false) : labB (bsOf (q ++ c :: x)) = false := by
  unfold labB
  repeat' split
  all_goals first
    | rfl
    | (rw [bsOf_data, List.all_append, List.all_cons, h]; simp)
theorem hostV_bad (q r : Bs) (c : UInt8) (h46 : c ≠ 46) (h : labC c = false) : hostV q (c :: r) = false := by
  unfold hostV
  rw [splitC, if_neg h46]
  cases hr : splitC 46 r with
  | nil => exact absurd hr (splitC_ne 46 r)
  | cons x xs =>
    dsimp only
    rw [labB_bad q x c h, Bool.false_and]
theorem label_end (s : ByteArray) (p q r : Bs) (hs : s.data.toList = p ++ (q ++ r)) (hq : ∀ c ∈ q, labC c = true) (hz : s.size ≤ 4611686018427387904) (X : Nat → Option Bool) (v : Bool) (hX : Ev X v) :
    Ev (fun k => if (wrap64 (((p.length + q.length : Nat) : Int) - (p.length : Int))) < 1 then (some false) else (if (wrap64 (((p.length + q.length : Nat) : Int) - (p.length : Int))) > 63 then (some false) else (if 0 ≤ (p.length : Int) then (if (p.length : Int) < (s.size : Int) then (if (bt s (p.length : Int)) = 45 then (some false) else (if 0 ≤ (wrap64 (((p.length + q.length : Nat) : Int) - 1)) then (if (wrap64 (((p.length + q.length : Nat) : Int) - 1)) < (s.size : Int) then (if (bt s (wrap64 (((p.length + q.length : Nat) : Int) - 1))) = 45 then (some false) else X k) else (none)) else (none))) else (none)) else (none)))) (labB (bsOf q) && v) := by
  have hl : s.size = p.length + (q.length + r.length) := by rw [size_len, hs]; simp
  have e1 : wrap64 (((p.length + q.length : Nat) : Int) - (p.length : Int)) = (q.length : Int) := by unfold wrap64; omega
  rw [e1]
  have hzq : (bsOf q).size = q.length := size_bsOf q
  unfold labB
  rw [hzq]
  by_cases h1 : (q.length : Int) < 1
  · rw [if_pos h1]; exact evPos h1 (Ev.now _)
  · rw [if_neg h1]
    refine evNeg h1 ?_
    by_cases h2 : (q.length : Int) > 63
    · rw [if_pos h2]; exact evPos h2 (Ev.now _)
    · rw [if_neg h2]
      have e2 : wrap64 (((p.length + q.length : Nat) : Int) - 1) = ((p.length + (q.length - 1) : Nat) : Int) := by unfold wrap64; omega
      have b0 := bt_sub s p q r hs 0 (by omega)
      have b1 := bt_sub s p q r hs (q.length - 1) (by omega)
      rw [Nat.add_zero] at b0
      rw [e2, b0, b1]
      refine evNeg h2 (evPos (by omega) (evPos (by omega) ?_))
      rw [show ((0 : Nat) : Int) = 0 from rfl]
      by_cases h3 : bt (bsOf q) 0 = 45
      · rw [if_pos h3]; exact evPos h3 (Ev.now _)
      · rw [if_neg h3]
        refine evNeg h3 (evPos (by omega) (evPos (by omega) ?_))
        by_cases h4 : bt (bsOf q) ((q.length - 1 : Nat) : Int) = 45
        · rw [if_pos h4]; exact evPos h4 (Ev.now _)
        · rw [if_neg h4]
          refine evNeg h4 (evEq hX ?_)
          rw [bsOf_data, List.all_eq_true.2 hq, Bool.true_and]
theorem host3_l0 (s : ByteArray) (hz : s.size ≤ 4611686018427387904) : ∀ (r p q : Bs), s.data.toList = p ++ (q ++ r) → (∀ c ∈ q, labC c = true) →
    Ev (fun k => lockkeeperref3_host.l0 k s (p.length : Int) ((p.length + q.length : Nat) : Int)) (hostV q r) := by
  intro r
  induction r with
  | nil =>
    intro p q hs hq
    have hl : s.size = p.length + q.length := by rw [size_len, hs]; simp
    have e : hostV q [] = (labB (bsOf q) && true) := by unfold hostV; simp [splitC]
    rw [e]
    refine evSucc ?_
    simp only [lockkeeperref3_host.l0]
    refine evPos (by omega) (evNeg (by omega) (evSucc ?_))
    simp only [lockkeeperref3_host.j1, Bool.false_eq_true, if_false]
    refine label_end s p q [] hs hq hz (fun k => lockkeeperref3_host.l0 k s (wrap64 (((p.length + q.length : Nat) : Int) + 1)) (wrap64 (((p.length + q.length : Nat) : Int) + 1))) true ?_
    have e2 : wrap64 (((p.length + q.length : Nat) : Int) + 1) = ((p.length + q.length + 1 : Nat) : Int) := by unfold wrap64; omega
    rw [e2]
    refine evSucc ?_
    simp only [lockkeeperref3_host.l0]
    exact evNeg (by omega) (Ev.now _)
  | cons c r ih =>
    intro p q hs hq
    have hl : s.size = p.length + (q.length + (r.length + 1)) := by rw [size_len, hs]; simp
    have hb : bt s ((p.length + q.length : Nat) : Int) = (c.toNat : Int) := by
      have := bt_mid s (p ++ q) c r (by rw [hs]; simp)
      rw [List.length_append] at this
      exact this
    have e2 : wrap64 (((p.length + q.length : Nat) : Int) + 1) = ((p.length + q.length + 1 : Nat) : Int) := by unfold wrap64; omega
    refine evSucc ?_
    simp only [lockkeeperref3_host.l0, hb]
    refine evPos (by omega) (evPos (by omega) (evPos (by omega) ?_))
    by_cases h46 : c = 46
    · subst h46
      rw [hostV_dot]
      refine evSucc ?_
      simp only [lockkeeperref3_host.j1]
      refine evNeg (by decide) ?_
      refine label_end s p q (46 :: r) hs hq hz (fun k => lockkeeperref3_host.l0 k s (wrap64 (((p.length + q.length : Nat) : Int) + 1)) (wrap64 (((p.length + q.length : Nat) : Int) + 1))) (hostV [] r) ?_
      rw [e2]
      have := ih (p ++ (q ++ [46])) [] (by rw [hs]; simp) (by intro d hd; cases hd)
      simp only [List.length_append, List.length_cons, List.length_nil, Nat.add_zero, Nat.zero_add] at this
      rw [show p.length + q.length + 1 = p.length + (q.length + 1) by omega]
      exact this
    · have hn : ((c.toNat : Int) != 46) = true := by
        rw [bne_iff_ne]
        intro e
        refine h46 (UInt8.toNat_inj.1 ?_)
        have : (46 : UInt8).toNat = 46 := rfl
        omega
      rw [hn]
      have j2t : labC c = false → Ev (fun k => lockkeeperref3_host.j2 k s (p.length : Int) ((p.length + q.length : Nat) : Int) true) (hostV q (c :: r)) := fun h => by
        rw [hostV_bad q r c h46 h]
        refine evSucc ?_
        simp only [lockkeeperref3_host.j2, if_true]
        exact Ev.now _
      have j2f : labC c = true → Ev (fun k => lockkeeperref3_host.j2 k s (p.length : Int) ((p.length + q.length : Nat) : Int) false) (hostV q (c :: r)) := fun h => by
        rw [hostV_cons q r c h46]
        refine evSucc ?_
        simp only [lockkeeperref3_host.j2, Bool.false_eq_true, if_false, e2]
        have := ih p (q ++ [c]) (by rw [hs]; simp) (by
          intro d hd
          rcases List.mem_append.1 hd with hd | hd
          · exact hq d hd
          · rw [List.mem_singleton.1 hd]; exact h)
        rw [List.length_append, List.length_singleton] at this
        rw [show p.length + q.length + 1 = p.length + (q.length + 1) by omega]
        exact this
      refine evSucc ?_
      simp only [lockkeeperref3_host.j1, hb, if_true]
      refine evPos (by omega) (evPos (by omega) ?_)
      by_cases h45 : (c.toNat : Int) = 45
      · exact evPos h45 (j2f (by unfold labC; exact decide_eq_true (by omega)))
      · refine evNeg h45 ?_
        by_cases h97 : (c.toNat : Int) < 97
        · refine evPos h97 ?_
          by_cases h48 : (c.toNat : Int) < 48
          · exact evPos h48 (j2t (by unfold labC; exact decide_eq_false (by omega)))
          · refine evNeg h48 ?_
            by_cases h57 : (c.toNat : Int) > 57
            · rw [decide_eq_true h57]; exact j2t (by unfold labC; exact decide_eq_false (by omega))
            · rw [decide_eq_false h57]; exact j2f (by unfold labC; exact decide_eq_true (by omega))
        · refine evNeg h97 ?_
          by_cases h122 : (c.toNat : Int) > 122
          · refine evPos h122 (evNeg (by omega) ?_)
            rw [decide_eq_true (show (c.toNat : Int) > 57 by omega)]
            exact j2t (by unfold labC; exact decide_eq_false (by omega))
          · exact evNeg h122 (j2f (by unfold labC; exact decide_eq_true (by omega)))
theorem host3_ev (s : ByteArray) (hs : s.size ≤ 100000) : Ev (fun k => lockkeeperref3_host.f k s) (hostB s) := by
  unfold lockkeeperref3_host.f hostB
  refine evIte (fun _ => Ev.now _) fun h => evEq (host3_l0 s (by omega) s.data.toList [] [] rfl (by intro c hc; cases hc)) ?_
  unfold hostV
  cases h : splitC 46 s.data.toList with
  | nil => exact absurd h (splitC_ne 46 _)
  | cons x xs => simp
theorem chk3_ev (a b : ByteArray) (p : Int) (hb : b.size ≤ 100000) : Ev (fun k => lockkeeperref3_Check.f k a b p) (chkS a b p) := by
  unfold lockkeeperref3_Check.f chkS
  exact evBind (def3_f a) (evIte (fun _ => Ev.now _) fun _ => Ev.bind (host3_ev b hb) (evIte (fun _ => evIte (fun _ => Ev.now _) fun _ => Ev.now _) fun _ => Ev.now _))
theorem u64w (n : Nat) (h : n < 18446744073709551616) : IntKind.u64.wrap (n : Int) = (n : Int) := u64_wrap n h
theorem key3_ev (a b : ByteArray) (p : Int) (ha : a.size ≤ 100000) (hb : b.size ≤ 100000) : Ev (fun k => lockkeeperref3_Key.f k a b p) (keyS a b p) := by
  unfold lockkeeperref3_Key.f keyS
  refine Ev.bind (chk3_ev a b p hb) (evIte (fun h => ?_) fun _ => Ev.now _)
  obtain ⟨p1, p2⟩ := chk_port h
  obtain ⟨n, rfl⟩ := Int.eq_ofNat_of_zero_le (show 0 ≤ p by omega)
  have z1 : (a ++ sSep).size = a.size + 3 := by rw [ByteArray.size_append]; rfl
  have z2 : (a ++ sSep ++ b).size = a.size + 3 + b.size := by rw [ByteArray.size_append, z1]
  have z3 : (a ++ sSep ++ b ++ sCol).size = a.size + 3 + b.size + 1 := by rw [ByteArray.size_append, z2]; rfl
  have hl := numL_length 19 n (by omega)
  have z4 : (bsOf (numL n)).size = (numL n).length := size_bsOf _
  rw [u64w n (by omega)]
  refine evPos (by omega) (evPos (by show (a ++ sSep).size + b.size ≤ _; omega) (evPos (by show (a ++ sSep ++ b).size + 1 ≤ _; omega) (Ev.bind (num_ev n (by omega)) (evPos (by show (a ++ sSep ++ b ++ sCol).size + _ ≤ _; omega) (Ev.now _)))))
theorem show3_ev (a b : ByteArray) (p : Int) (ha : a.size ≤ 100000) (hb : b.size ≤ 100000) : Ev (fun k => lockkeeperref3_Show.f k a b p) (showS a b p) := by
  unfold lockkeeperref3_Show.f showS
  have z1 : (a ++ sSep).size = a.size + 3 := by rw [ByteArray.size_append]; rfl
  have z2 : (a ++ sSep ++ b).size = a.size + 3 + b.size := by rw [ByteArray.size_append, z1]
  have z3 : (a ++ sSep ++ b ++ sCol).size = a.size + 3 + b.size + 1 := by rw [ByteArray.size_append, z2]; rfl
  refine Ev.bind (chk3_ev a b p hb) (evIte (fun h => ?_) fun hn => evEq (Ev.now _) ?_)
  · obtain ⟨p1, p2⟩ := chk_port h
    obtain ⟨n, rfl⟩ := Int.eq_ofNat_of_zero_le (show 0 ≤ p by omega)
    have hl := numL_length 19 n (by omega)
    have z4 : (bsOf (numL n)).size = (numL n).length := size_bsOf _
    rw [u64w n (by omega)]
    refine evPos (by omega) (evPos (by show (a ++ sSep).size + b.size ≤ _; omega) (evBind (def3_f a) (evIte (fun _ => Ev.now _) fun _ => evEq (evPos (by show (a ++ sSep ++ b).size + 1 ≤ _; omega) (Ev.bind (num_ev n (by omega)) (evPos (by show (a ++ sSep ++ b ++ sCol).size + _ ≤ _; omega) (Ev.now _)))) ?_)))
    unfold keyS
    rw [if_pos h]
    rfl
  · unfold keyS
    rw [if_neg hn]
theorem digStep_lt (n : Int) (c : UInt8) : digStep n c < 18446744073709551616 := by
  unfold digStep
  split
  · omega
  · rw [show ∀ x : Int, IntKind.u64.wrap x = x % 18446744073709551616 from fun x => by simp [IntKind.wrap, IntKind.bits, IntKind.signed]]
    omega
theorem digGo_lt (l : Bs) : ∀ n v, n < 18446744073709551616 → digGo n l = some v → v < 18446744073709551616 := by
  induction l with
  | nil => intro n v h0 h; rw [digGo] at h; injection h with h; omega
  | cons c l ih =>
    intro n v h0 h
    rw [digGo] at h
    split at h
    · exact ih _ v (digStep_lt n c) h
    · cases h
theorem digS_lt (s : ByteArray) : (digS s).1 < 18446744073709551616 := by
  unfold digS
  cases h : digGo 0 s.data.toList with
  | none => simp
  | some v => exact digGo_lt _ 0 v (by omega) h
def countS (t : ByteArray) (m : Int) : Int × Bool := if (digS t).2 = true then (if (t.size : Int) > 20 then (0, false) else if (bsOf (numL (digS t).1.toNat)).toList = t.toList then (if (digS t).1 > m then (0, false) else ((digS t).1, true)) else (0, false)) else (0, false)
theorem count_ev (t : ByteArray) (m : Int) (ht : t.size ≤ 100000) : Ev (fun k => lockkeeperref1_Count.f k t m) (countS t m) := by
  unfold lockkeeperref1_Count.f countS
  have h0 := digS_nonneg t
  have h1 := digS_lt t
  refine Ev.bind (rdig_ev t (by omega)) (evIte (fun _ => evIte (fun _ => Ev.now _) fun _ => ?_) fun _ => Ev.now _)
  have hn := num_ev (digS t).1.toNat (by omega)
  rw [Int.toNat_of_nonneg h0] at hn
  exact Ev.bind hn (evIte (fun _ => evIte (fun _ => Ev.now _) fun _ => Ev.now _) fun _ => Ev.now _)
theorem low_dig_all : ∀ n : Fin 256, isDig (lowC (UInt8.ofNat n.val)) = isDig (UInt8.ofNat n.val) ∧ (isDig (UInt8.ofNat n.val) = true → lowC (UInt8.ofNat n.val) = UInt8.ofNat n.val) := by decide +kernel
theorem low_dig (c : UInt8) : isDig (lowC c) = isDig c ∧ (isDig c = true → lowC c = c) := by
  have := low_dig_all ⟨c.toNat, c.toNat_lt⟩
  simpa using this
theorem digGo_low (l : Bs) : ∀ n, digGo n (lowL l) = digGo n l ∧ (∀ v, digGo n l = some v → lowL l = l) := by
  induction l with
  | nil => intro n; exact ⟨rfl, fun _ _ => rfl⟩
  | cons c l ih =>
    intro n
    obtain ⟨h1, h2⟩ := low_dig c
    show digGo n (lowC c :: lowL l) = digGo n (c :: l) ∧ (∀ v, digGo n (c :: l) = some v → lowC c :: lowL l = c :: l)
    rw [digGo, digGo, h1]
    cases hc : isDig c with
    | false => exact ⟨rfl, fun v h => by cases h⟩
    | true =>
      rw [h2 hc]
      simp only [if_true]
      exact ⟨(ih _).1, fun v h => by rw [(ih _).2 v h]⟩
theorem digS_low (t : ByteArray) : digS (lowB t) = digS t ∧ ((digS t).2 = true → lowB t = t) := by
  have h := digGo_low t.data.toList 0
  constructor
  · unfold digS
    rw [lowB_data, h.1]
    cases digGo 0 t.data.toList with
    | none => rfl
    | some v => cases t.data.toList <;> rfl
  · intro hd
    unfold digS at hd
    cases hg : digGo 0 t.data.toList with
    | none => rw [hg] at hd; cases hd
    | some v => exact ba_ext (by rw [lowB_data]; exact h.2 v hg)
theorem dig_char (c : UInt8) (h : isDig c = true) : ∃ d : Nat, d < 10 ∧ c = UInt8.ofNat (48 + d) := by
  unfold isDig at h
  simp at h
  refine ⟨c.toNat - 48, by omega, UInt8.toNat_inj.1 ?_⟩
  rw [num_char _ (by omega)]
  omega
theorem rev_rec {P : Bs → Prop} (h0 : P []) (h1 : ∀ xs c, P xs → P (xs ++ [c])) (l : Bs) : P l := by
  have : ∀ l : Bs, P l.reverse := by
    intro l
    induction l with
    | nil => exact h0
    | cons c l ih => rw [List.reverse_cons]; exact h1 _ c ih
  simpa using this l.reverse
theorem canon (xs : Bs) : ∀ v, xs.length ≤ 5 → (∀ c l, xs = c :: l → c ≠ 48) → xs ≠ [] → digGo 0 xs = some v → ∃ n : Nat, v = (n : Int) ∧ numL n = xs ∧ 1 ≤ n ∧ n < 10 ^ xs.length := by
  induction xs using rev_rec with
  | h0 => intro v _ _ h _; exact absurd rfl h
  | h1 xs c ih =>
    intro v hl hh _ hg
    rw [digGo_append] at hg
    rw [List.length_append, List.length_singleton] at hl
    cases xs with
    | nil =>
      rw [digGo] at hg
      simp only [Option.bind_some] at hg
      split at hg
      case isFalse => cases hg
      rename_i hc
      obtain ⟨d, hd, rfl⟩ := dig_char c hc
      have := digStep_num 0 d hd (by omega)
      rw [show ((0 : Nat) : Int) = 0 from rfl] at this
      rw [this] at hg
      injection hg with hg
      refine ⟨0 * 10 + d, hg.symm, ?_, ?_, ?_⟩
      · rw [show 0 * 10 + d = d by omega, numL_small (by omega)]; rfl
      · rcases Nat.eq_zero_or_pos d with rfl | h
        · exact absurd rfl (hh _ [] rfl)
        · omega
      · simp; omega
    | cons x xs =>
      cases hv : digGo 0 (x :: xs) with
      | none => rw [hv] at hg; cases hg
      | some w =>
        obtain ⟨n, rfl, hn, h1, hlt⟩ := ih w (by omega) (fun c' l' e => hh c' (l' ++ [c]) (by rw [e]; rfl)) (by simp) hv
        rw [hv] at hg
        simp only [Option.bind_some] at hg
        split at hg
        case isFalse => cases hg
        rename_i hc
        obtain ⟨d, hd, rfl⟩ := dig_char c hc
        have hb : n < 100000 := by
          have : 10 ^ (x :: xs).length ≤ 10 ^ 5 := Nat.pow_le_pow_right (by omega) (by simp at hl ⊢; omega)
          omega
        rw [digStep_num n d hd (by omega)] at hg
        injection hg with hg
        refine ⟨n * 10 + d, hg.symm, ?_, by omega, ?_⟩
        · rw [numL_great (by omega), show (n * 10 + d) / 10 = n by omega, hn, show (n * 10 + d) % 10 = d by omega]
        · rw [List.length_append, List.length_singleton, Nat.pow_succ]; omega
theorem portS_bad (z n : Nat) (hn : n < 18446744073709551616) (h : 0 < z ∨ n < 1 ∨ 65535 < n) : portS (bsOf (List.replicate z 48 ++ numL n)) = 0 := by
  have hd : digS (bsOf (List.replicate z 48 ++ numL n)) = ((n : Int), true) := by
    rw [digS_L, bsOf_data]
    exact digL_num z n hn
  unfold portS
  rw [hd, if_pos rfl]
  split
  · rfl
  · split
    · rfl
    · rename_i h48
      rw [if_pos]
      show (n : Int) > 65535
      have key : z = 0 ∧ n ≠ 0 := by
        refine ⟨?_, ?_⟩
        · cases z with
          | zero => rfl
          | succ z =>
            exfalso
            refine h48 ?_
            rw [show (0 : Int) = (([] : Bs).length : Int) from rfl, bt_mid (bsOf (List.replicate (z + 1) 48 ++ numL n)) [] 48 (List.replicate z 48 ++ numL n) (by rw [bsOf_data, List.replicate_succ]; rfl)]
            rfl
        · rintro rfl
          cases z with
          | zero =>
            refine h48 ?_
            have e0 : numL 0 = [48] := by decide +kernel
            rw [e0]
            rfl
          | succ z =>
            refine h48 ?_
            rw [show (0 : Int) = (([] : Bs).length : Int) from rfl, bt_mid (bsOf (List.replicate (z + 1) 48 ++ numL 0)) [] 48 (List.replicate z 48 ++ numL 0) (by rw [bsOf_data, List.replicate_succ]; rfl)]
            rfl
      omega
theorem port_count (t : ByteArray) : portS (lowB t) = if (countS t 65535).2 = true then (if (countS t 65535).1 < 1 then 0 else (countS t 65535).1) else 0 := by
  obtain ⟨e1, e2⟩ := digS_low t
  have h0 := digS_nonneg t
  have h1 := digS_lt t
  by_cases hd : (digS t).2 = true
  · rw [e2 hd]
    unfold countS
    rw [if_pos hd]
    by_cases h20 : (t.size : Int) > 20
    · rw [if_pos h20]
      unfold portS
      rw [if_pos hd, if_pos (by omega)]
      rfl
    · rw [if_neg h20]
      by_cases hc : (bsOf (numL (digS t).1.toNat)).toList = t.toList
      · rw [if_pos hc]
        have et : t = bsOf (numL (digS t).1.toNat) := ((tl_eq _ _).1 hc).symm
        by_cases hm : (digS t).1 > 65535
        · rw [if_pos hm]
          have := portS_bad 0 (digS t).1.toNat (by omega) (.inr (.inr (by omega)))
          rw [List.replicate_zero, List.nil_append, ← et] at this
          rw [this]
          rfl
        · rw [if_neg hm]
          dsimp only
          rw [if_pos rfl]
          by_cases h1 : (digS t).1 < 1
          · rw [if_pos h1]
            have := portS_bad 0 (digS t).1.toNat (by omega) (.inr (.inl (by omega)))
            rw [List.replicate_zero, List.nil_append, ← et] at this
            exact this
          · rw [if_neg h1]
            have := portS_num (digS t).1.toNat (by omega) (by omega)
            rw [← et, Int.toNat_of_nonneg h0] at this
            exact this
      · rw [if_neg hc]
        unfold portS
        rw [if_pos hd]
        by_cases h5 : (t.size : Int) > 5
        · rw [if_pos h5]; rfl
        · rw [if_neg h5]
          by_cases h48 : bt t 0 = 48
          · rw [if_pos h48]; rfl
          · exfalso
            have hz := digS_pos t hd
            have hl := size_len t
            unfold digS at hd hc
            cases hg : digGo 0 t.data.toList with
            | none => rw [hg] at hd; cases hd
            | some v =>
              rw [hg] at hc
              obtain ⟨n, rfl, hn, _, _⟩ := canon t.data.toList v (by omega) (fun c l e e48 => h48 (by
                have := bt_mid t [] c l e
                rw [show ((([] : Bs).length : Nat) : Int) = 0 from rfl] at this
                rw [this, e48]
                rfl)) (by intro e; rw [e] at hl; have : t.size = 0 := hl; omega) hg
              refine hc ?_
              rw [Int.toNat_natCast, hn, bsOf_of]
  · unfold countS portS
    rw [e1, if_neg hd, if_neg hd]
    rfl
theorem low_sep_all : ∀ n : Fin 256, (47 == lowC (UInt8.ofNat n.val)) = (47 == UInt8.ofNat n.val) ∧ (58 == lowC (UInt8.ofNat n.val)) = (58 == UInt8.ofNat n.val) := by decide +kernel
theorem low_sep (c : UInt8) : (47 == lowC c) = (47 == c) ∧ (58 == lowC c) = (58 == c) := by
  have := low_sep_all ⟨c.toNat, c.toNat_lt⟩
  simpa using this
theorem pre_low (l : Bs) : (([58, 47, 47] : List UInt8) : Bs).isPrefixOf (lowL l) = (([58, 47, 47] : List UInt8) : Bs).isPrefixOf l := by
  cases l with
  | nil => rfl
  | cons a l =>
    cases l with
    | nil => show ((58 == lowC a) && false) = ((58 == a) && false); simp
    | cons b l =>
      cases l with
      | nil => show ((58 == lowC a) && ((47 == lowC b) && false)) = ((58 == a) && ((47 == b) && false)); simp
      | cons c l =>
        show ((58 == lowC a) && ((47 == lowC b) && ((47 == lowC c) && true))) = ((58 == a) && ((47 == b) && ((47 == c) && true)))
        rw [(low_sep a).2, (low_sep b).1, (low_sep c).1]
theorem index_low (l : Bs) : Lib.index (lowL l) ([58, 47, 47] : List UInt8) = Lib.index l ([58, 47, 47] : List UInt8) := by
  induction l with
  | nil => rfl
  | cons c l ih =>
    have := pre_low (c :: l)
    show Lib.index (lowC c :: lowL l) _ = _
    rw [Lib.index, Lib.index, show (lowC c :: lowL l) = lowL (c :: l) from rfl, this, ih]
theorem index_short (l : Bs) (h : l.length < 3) : Lib.index l ([58, 47, 47] : List UInt8) = -1 := by
  match l, h with
  | [], _ => rfl
  | [a], _ => simp [Lib.index, List.isPrefixOf]
  | [a, b], _ => simp [Lib.index, List.isPrefixOf]
theorem pre_take (l : Bs) (h : 3 ≤ l.length) : ((l.take 3) = ([58, 47, 47] : List UInt8)) ↔ (([58, 47, 47] : List UInt8) : Bs).isPrefixOf l = true := by
  match l, h with
  | a :: b :: c :: l, _ =>
    simp [List.isPrefixOf]
    constructor
    · rintro ⟨rfl, rfl, rfl⟩; exact ⟨rfl, rfl, rfl⟩
    · rintro ⟨rfl, rfl, rfl⟩; exact ⟨rfl, rfl, rfl⟩
theorem behind_l0 (s : ByteArray) (hs : s.size ≤ 140737488355328) : ∀ (r p : Bs), s.data.toList = p ++ r →
    Ev (fun k => lockkeeperref3_Behind.l0 k s (p.length : Int)) (if Lib.index r ([58, 47, 47] : List UInt8) == -1 then -1 else (p.length : Int) + Lib.index r ([58, 47, 47] : List UInt8)) := by
  intro r
  induction r with
  | nil =>
    intro p hp
    have hl : s.size = p.length := by rw [size_len, hp]; simp
    have e3 : wrap64 ((p.length : Int) + 3) = ((p.length + 3 : Nat) : Int) := by unfold wrap64; omega
    refine evSucc ?_
    simp only [lockkeeperref3_Behind.l0, e3]
    exact evNeg (by omega) (Ev.now _)
  | cons c r ih =>
    intro p hp
    have hl : s.size = p.length + (r.length + 1) := by rw [size_len, hp]; simp
    have e3 : wrap64 ((p.length : Int) + 3) = ((p.length + 3 : Nat) : Int) := by unfold wrap64; omega
    have e1 : wrap64 ((p.length : Int) + 1) = ((p ++ [c]).length : Int) := by simp; unfold wrap64; omega
    refine evSucc ?_
    simp only [lockkeeperref3_Behind.l0, e3, e1]
    by_cases h3 : 3 ≤ r.length + 1
    · have ex : (s.extract ((p.length : Int)).toNat (((p.length + 3 : Nat) : Int)).toNat).toList = (c :: r).take 3 := by
        rw [tl, extract_list, hp, Int.toNat_natCast, Int.toNat_natCast]
        simp [List.take_append, List.drop_append]
      refine evPos (by omega) (evPos (by omega) (evPos (by omega) ?_))
      rw [ex]
      by_cases hpre : (c :: r).take 3 = ([58, 47, 47] : List UInt8)
      · have hq := (pre_take (c :: r) (by simpa using h3)).1 hpre
        refine evPos hpre (evEq (Ev.now _) ?_)
        rw [Lib.index, if_pos hq]
        simp
      · have hq : ¬ (([58, 47, 47] : List UInt8) : Bs).isPrefixOf (c :: r) = true := fun h => hpre ((pre_take (c :: r) (by simpa using h3)).2 h)
        refine evNeg hpre (evEq (ih (p ++ [c]) (by rw [hp]; simp)) ?_)
        rw [Lib.index.eq_2, if_neg hq]
        have hge := Lib.index_ge r ([58, 47, 47] : List UInt8)
        by_cases hi : Lib.index r ([58, 47, 47] : List UInt8) = -1
        · simp [hi]
        · have h1 : (Lib.index r ([58, 47, 47] : List UInt8) == -1) = false := by simpa using hi
          have h2 : (Lib.index r ([58, 47, 47] : List UInt8) + 1 == -1) = false := by
            simp only [beq_eq_false_iff_ne]
            omega
          rw [h1]
          simp only [Bool.false_eq_true, if_false, h2, List.length_append, List.length_singleton]
          omega
    · refine evNeg (by omega) (evEq (Ev.now _) ?_)
      rw [index_short (c :: r) (by simp; omega)]
      rfl
theorem behind_ev (s : ByteArray) (hs : s.size ≤ 140737488355328) : Ev (fun k => lockkeeperref3_Behind.f k s) (Lib.index s.data.toList ([58, 47, 47] : List UInt8)) := by
  unfold lockkeeperref3_Behind.f
  refine evEq (behind_l0 s hs s.data.toList [] rfl) ?_
  by_cases hi : Lib.index s.data.toList ([58, 47, 47] : List UInt8) = -1
  · simp [hi]
  · have h1 : (Lib.index s.data.toList ([58, 47, 47] : List UInt8) == -1) = false := by simpa using hi
    rw [h1]
    simp
theorem made_nought (a b : ByteArray) : madeS a b 0 = noO := by
  have : chkS a b 0 = false := by
    unfold chkS
    split
    · rfl
    · split <;> rfl
  unfold madeS
  rw [this]
  rfl
theorem parse_j1 (x6 sch e : ByteArray) (p : Int) (h : x6.size ≤ 100000) : Ev (fun k => lockkeeperref3_Parse.j1 k x6 sch e p) (madeS sch (lowB x6) p) := by
  have hz := lowB_size x6
  refine evSucc ?_
  simp only [lockkeeperref3_Parse.j1]
  unfold madeS
  exact evBind (rlower_f x6 (by omega)) (Ev.bind (chk3_ev _ _ _ (by omega)) (evIte (fun _ => Ev.now _) fun _ => Ev.now _))
def restS (x6 sch : ByteArray) : OT := if (cutS (lowB x6) sCol).2.2 = true then madeS sch (cutS (lowB x6) sCol).1 (portS (cutS (lowB x6) sCol).2.1) else madeS sch (cutS (lowB x6) sCol).1 (defP sch)
theorem low58 (c : UInt8) : lowC c = 58 ↔ c = 58 := by
  have := (low_sep c).2
  constructor
  · intro h
    rw [h] at this
    have h' : ((58 : UInt8) == c) = true := this.symm.trans (by decide)
    exact (beq_iff_eq.1 h').symm
  · intro h; rw [h]; decide
theorem parse_l0 (x6 sch e : ByteArray) (h : x6.size ≤ 100000) : ∀ (r p : Bs), x6.data.toList = p ++ r → 58 ∉ p →
    Ev (fun k => lockkeeperref3_Parse.l0 k x6 (p.length : Int) sch e (defP sch)) (restS x6 sch) := by
  intro r
  have no58 : ∀ p : Bs, 58 ∉ p → 58 ∉ lowL p := by
    intro p hp hm
    obtain ⟨d, hd, e⟩ := List.mem_map.1 hm
    rw [(low58 d).1 e] at hd
    exact hp hd
  induction r with
  | nil =>
    intro p hp h58
    rw [List.append_nil] at hp
    have hl : x6.size = p.length := by rw [size_len, hp]
    refine evSucc ?_
    simp only [lockkeeperref3_Parse.l0]
    refine evNeg (by omega) (evEq (parse_j1 x6 sch e _ h) ?_)
    unfold restS
    rw [show sCol = (⟨#[58]⟩ : ByteArray) from rfl, cutS_not (lowB x6) 58 (by rw [lowB_data, hp]; exact no58 p h58)]
    rfl
  | cons c r ih =>
    intro p hp h58
    have hl : x6.size = p.length + (r.length + 1) := by rw [size_len, hp]; simp
    have hb := bt_mid x6 p c r hp
    have e1 : wrap64 ((p.length : Int) + 1) = ((p ++ [c]).length : Int) := by simp; unfold wrap64; omega
    refine evSucc ?_
    simp only [lockkeeperref3_Parse.l0, hb, e1]
    by_cases hc : c = 58
    · subst hc
      have ex : x6.extract (((p ++ [(58 : UInt8)]).length : Int)).toNat x6.size = bsOf r := by
        apply ba_ext
        rw [extract_list, bsOf_data, Int.toNat_natCast, hl, hp]
        simp [List.take_append, List.drop_append]
      have ey : x6.extract 0 ((p.length : Int)).toNat = bsOf p := by
        apply ba_ext
        rw [extract_list, bsOf_data, Int.toNat_natCast, hp]
        simp
      have zr : (bsOf r).size = r.length := size_bsOf r
      have zp : (bsOf p).size = p.length := size_bsOf p
      have hlow : (lowB x6).data.toList = lowL p ++ 58 :: lowL r := by
        rw [lowB_data, hp]
        unfold lowL
        rw [List.map_append, List.map_cons]
        rfl
      have hF : restS x6 sch = madeS sch (lowB (bsOf p)) (portS (lowB (bsOf r))) := by
        unfold restS
        rw [show sCol = (⟨#[58]⟩ : ByteArray) from rfl, cutS_at (lowB x6) (lowL p) (lowL r) 58 hlow (no58 p h58)]
        dsimp only
        rw [if_pos rfl]
        unfold lowB
        rw [bsOf_data, bsOf_data]
      rw [ex, ey, hF, port_count]
      refine evPos (by omega) (evPos (by omega) (evPos rfl (evPos (by omega) (evPos (by simp; omega) (Ev.bind (count_ev (bsOf r) 65535 (by omega)) ?_)))))
      by_cases h2 : (countS (bsOf r) 65535).2 = true
      · rw [if_pos h2]
        refine evPos h2 ?_
        by_cases h1 : (countS (bsOf r) 65535).1 < 1
        · rw [if_pos h1, made_nought]
          exact evPos h1 (Ev.now _)
        · rw [if_neg h1]
          have hw : wrap64 (countS (bsOf r) 65535).1 = (countS (bsOf r) 65535).1 := by
            have hm : (countS (bsOf r) 65535).1 ≤ 65535 := by
              unfold countS
              repeat' split
              all_goals dsimp only
              all_goals omega
            unfold wrap64
            omega
          rw [hw]
          exact evNeg h1 (evPos (by omega) (parse_j1 _ _ _ _ (by omega)))
      · rw [if_neg h2, made_nought]
        exact evNeg h2 (Ev.now _)
    · have hn : ¬ (c.toNat : Int) = 58 := fun e => hc (UInt8.toNat_inj.1 (by have : (58 : UInt8).toNat = 58 := rfl; omega))
      exact evPos (by omega) (evPos (by omega) (evNeg hn (ih (p ++ [c]) (by rw [hp]; simp) (by
        intro hm
        rcases List.mem_append.1 hm with hm | hm
        · exact h58 hm
        · exact hc (List.mem_singleton.1 hm).symm))))
theorem parse3_ev (s : ByteArray) (hs : s.size ≤ 100000) : Ev (fun k => lockkeeperref3_Parse.f k s) (parseS s) := by
  unfold lockkeeperref3_Parse.f parseS
  refine evIte (fun _ => Ev.now _) fun h => Ev.bind (behind_ev s (by omega)) ?_
  have hge := Lib.index_ge s.data.toList ([58, 47, 47] : List UInt8)
  have hle := size_len s
  by_cases hi : Lib.index s.data.toList ([58, 47, 47] : List UInt8) < 0
  · have hc : cutS (lowB s) sSep = (lowB s, ⟨#[]⟩, false) := by
      unfold cutS Lib.cut
      rw [lowB_data, show sSep.data.toList = ([58, 47, 47] : List UInt8) from rfl, index_low, if_neg (by omega)]
      unfold lowB
      rfl
    rw [hc]
    exact evPos hi (Ev.now _)
  · obtain ⟨i, hi'⟩ := Int.eq_ofNat_of_zero_le (show 0 ≤ Lib.index s.data.toList ([58, 47, 47] : List UInt8) by omega)
    have hi3 : i + 3 ≤ s.size := by
      have key : ∀ l : Bs, ∀ i : Nat, Lib.index l ([58, 47, 47] : List UInt8) = (i : Int) → i + 3 ≤ l.length := by
        intro l
        induction l with
        | nil => intro i h; have : Lib.index [] ([58, 47, 47] : List UInt8) = -1 := rfl; omega
        | cons c l ih =>
          intro i h
          by_cases h3 : (c :: l).length < 3
          · have := index_short (c :: l) h3; omega
          · rw [Lib.index] at h
            split at h
            · simp at h3 ⊢; omega
            · split at h
              · omega
              · have := Lib.index_ge l ([58, 47, 47] : List UInt8)
                rename_i hne
                have hne' : Lib.index l ([58, 47, 47] : List UInt8) ≠ -1 := by simpa using hne
                have := ih (i - 1) (by omega)
                simp; omega
      rw [size_len]
      exact key _ i hi'
    have hc : cutS (lowB s) sSep = (lowB (s.extract 0 i), lowB (s.extract (i + 3) s.size), true) := by
      unfold cutS Lib.cut
      rw [lowB_data, show sSep.data.toList = ([58, 47, 47] : List UInt8) from rfl, index_low, hi', if_pos (by omega)]
      unfold lowB
      rw [extract_list, extract_list, Int.toNat_natCast]
      unfold lowL
      rw [← List.map_take, ← List.map_drop, size_len, List.take_length]
      rfl
    have e3 : wrap64 ((i : Int) + 3) = ((i + 3 : Nat) : Int) := by unfold wrap64; omega
    have z1 : (s.extract 0 i).size ≤ s.size := by rw [ByteArray.size_extract]; omega
    have z2 : (s.extract (i + 3) s.size).size ≤ s.size := by rw [ByteArray.size_extract]; omega
    rw [hi', hc, e3, Int.toNat_natCast, Int.toNat_natCast]
    dsimp only
    refine evNeg (by omega) (evPos (by omega) (evPos (by omega) (evBind (rlower_f _ (by omega)) (evPos (by omega) (evPos (by omega) (evBind (def3_f _) (evEq (parse_l0 (s.extract (i + 3) s.size) (lowB (s.extract 0 i)) _ (by omega) (s.extract (i + 3) s.size).data.toList [] rfl (by simp)) ?_)))))))
    rw [if_pos rfl]
    rfl
def dotV (s : Bs) : Int := if lowL s = ([46] : List UInt8) then 1 else if lowL s = ([37, 50, 101] : List UInt8) then 1 else if lowL s = ([46, 46] : List UInt8) then 2 else if lowL s = ([46, 37, 50, 101] : List UInt8) then 2 else if lowL s = ([37, 50, 101, 46] : List UInt8) then 2 else if lowL s = ([37, 50, 101, 37, 50, 101] : List UInt8) then 2 else 0
theorem dots_ev (x : ByteArray) (h : x.size ≤ 9223372036854775807) : Ev (fun k => target_dots.f k x) (dotV x.data.toList) := by
  have hj : ∀ b : Bool, Ev (fun k => target_dots.j0 k (lowB x) b) (if b = true then 1 else if lowL x.data.toList = ([46, 46] : List UInt8) then 2 else if lowL x.data.toList = ([46, 37, 50, 101] : List UInt8) then 2 else if lowL x.data.toList = ([37, 50, 101, 46] : List UInt8) then 2 else if lowL x.data.toList = ([37, 50, 101, 37, 50, 101] : List UInt8) then 2 else 0) := fun b => by
    refine evSucc ?_
    simp only [target_dots.j0, tl, lowB_data]
    exact evIte (fun _ => Ev.now _) fun _ => evIte (fun _ => Ev.now _) fun _ => evIte (fun _ => Ev.now _) fun _ => evIte (fun _ => Ev.now _) fun _ => evIte (fun _ => Ev.now _) fun _ => Ev.now _
  unfold target_dots.f
  refine evBind (lower_f x h) ?_
  show Ev (fun k => if (lowB x).toList = ([46] : List UInt8) then target_dots.j0 k (lowB x) ((lowB x).toList == ([46] : List UInt8)) else target_dots.j0 k (lowB x) ((lowB x).toList == ([37, 50, 101] : List UInt8))) _
  simp only [tl, lowB_data]
  unfold dotV
  by_cases h1 : lowL x.data.toList = ([46] : List UInt8)
  · rw [if_pos h1]
    refine evPos h1 ?_
    rw [h1]
    exact hj true
  · rw [if_neg h1]
    refine evNeg h1 ?_
    by_cases h2 : lowL x.data.toList = ([37, 50, 101] : List UInt8)
    · rw [if_pos h2, h2]
      exact hj true
    · rw [if_neg h2, show (lowL x.data.toList == ([37, 50, 101] : List UInt8)) = false by simpa using h2]
      exact hj false
theorem dotV_cases (s : Bs) : dotV s = 0 ∨ dotV s = 1 ∨ dotV s = 2 := by
  unfold dotV
  repeat' split
  all_goals simp
theorem dotV_ne {s : Bs} (h : dotV s ≠ 0) : 1 ≤ s.length := by
  cases s with
  | nil => exact absurd (by decide) h
  | cons => simp
def stepK (K : List Bs) (s : Bs) : List Bs := if dotV s = 0 then K ++ [s] else if dotV s = 2 then K.dropLast else K
def endV (parts K : List Bs) : List Bs := if dotV (parts.getLastD []) > 0 then K ++ [[]] else K
def joinV (l : List Bs) : Bs := Lib.join l ([47] : List UInt8)
def trimV (p : Bs) : Bs := match p with
  | [] => []
  | c :: r => if c = 47 then r else c :: r
def keptV (p : Bs) : List Bs := endV (splitC 47 (trimV p)) ((splitC 47 (trimV p)).foldl stepK [])
def cleanV (p : Bs) : Bs := 47 :: joinV (keptV p)
theorem joinV_nil : joinV [] = [] := by simp [joinV, Lib.join, List.intercalate]
theorem joinV_one (a : Bs) : joinV [a] = a := by simp [joinV, Lib.join, List.intercalate, List.intersperse]
theorem joinV_cons (a b : Bs) (l : List Bs) : joinV (a :: b :: l) = a ++ 47 :: joinV (b :: l) := by simp [joinV, Lib.join, List.intercalate, List.intersperse]
def wtV (l : List Bs) : Nat := (l.map fun s => s.length + 1).sum
theorem wtV_append (a b : List Bs) : wtV (a ++ b) = wtV a + wtV b := by simp [wtV]
theorem wtV_cons (a : Bs) (b : List Bs) : wtV (a :: b) = a.length + 1 + wtV b := by simp [wtV]
theorem wtV_one (a : Bs) : wtV [a] = a.length + 1 := by simp [wtV]
theorem wtV_mem {l : List Bs} {s : Bs} (h : s ∈ l) : s.length + 1 ≤ wtV l := by
  induction l with
  | nil => cases h
  | cons a l ih =>
    rw [wtV_cons]
    rcases List.mem_cons.1 h with rfl | h
    · omega
    · have := ih h; omega
theorem wtV_length (l : List Bs) : l.length ≤ wtV l := by
  induction l with
  | nil => simp
  | cons a l ih => rw [wtV_cons, List.length_cons]; omega
theorem joinV_wt (l : List Bs) (h : l ≠ []) : (joinV l).length + 1 = wtV l := by
  induction l with
  | nil => exact absurd rfl h
  | cons a l ih =>
    cases l with
    | nil => rw [joinV_one, wtV_one]
    | cons b l =>
      have := ih (by simp)
      rw [joinV_cons, wtV_cons, List.length_append, List.length_cons]
      omega
theorem joinV_le (l : List Bs) : (joinV l).length ≤ wtV l := by
  cases l with
  | nil => rw [joinV_nil]; exact Nat.zero_le _
  | cons a l => have := joinV_wt (a :: l) (by simp); omega
theorem wtV_split (c : UInt8) (l : Bs) : wtV (splitC c l) = l.length + 1 := by
  induction l with
  | nil => rfl
  | cons b l ih =>
    rw [splitC]
    split
    · rw [wtV_cons, ih]; simp; omega
    · split
      · rename_i e; exact absurd e (splitC_ne c l)
      · rename_i x xs e
        rw [e, wtV_cons] at ih
        rw [wtV_cons, List.length_cons, List.length_cons]
        omega
theorem wtV_dropLast (l : List Bs) : wtV l.dropLast ≤ wtV l := by
  rcases List.eq_nil_or_concat l with rfl | ⟨a, b, rfl⟩
  · exact Nat.le_refl _
  · simp [wtV]
theorem wt_step (K : List Bs) (s : Bs) : wtV (stepK K s) ≤ wtV K + (s.length + 1) := by
  have := wtV_dropLast K
  unfold stepK
  split
  · rw [wtV_append, wtV_one]; omega
  · split <;> omega
theorem wt_fold (L : List Bs) : ∀ K, wtV (L.foldl stepK K) ≤ wtV K + wtV L := by
  induction L with
  | nil => intro K; simp [wtV]
  | cons s L ih =>
    intro K
    have h1 := ih (stepK K s)
    have h2 := wt_step K s
    rw [List.foldl_cons, wtV_cons]
    omega
theorem wt_step0 (K : List Bs) (s : Bs) (h : dotV s ≠ 0) : wtV (stepK K s) ≤ wtV K := by
  have := wtV_dropLast K
  unfold stepK
  rw [if_neg h]
  split <;> omega
theorem getLastD_append (P : List Bs) (x : Bs) : (P ++ [x]).getLastD [] = x := by simp
theorem wt_end (L : List Bs) (hL : L ≠ []) : wtV (endV L (L.foldl stepK [])) ≤ wtV L := by
  rcases List.eq_nil_or_concat L with rfl | ⟨P, x, rfl⟩
  · exact absurd rfl hL
  · rw [List.concat_eq_append]
    have h1 := wt_fold P []
    have h0 : wtV ([] : List Bs) = 0 := rfl
    unfold endV
    rw [getLastD_append, List.foldl_append, wtV_append, wtV_one, List.foldl_cons, List.foldl_nil]
    split
    · rename_i h
      have h2 := wt_step0 (P.foldl stepK []) x (by omega)
      have h3 := dotV_ne (s := x) (by omega)
      rw [wtV_append, wtV_one]
      simp only [List.length_nil]
      omega
    · have h2 := wt_step (P.foldl stepK []) x
      omega
theorem trimV_le (p : Bs) : (trimV p).length ≤ p.length := by
  unfold trimV
  split
  · exact Nat.le_refl _
  · split
    · rw [List.length_cons]; omega
    · exact Nat.le_refl _
theorem end_ne (L : List Bs) (hL : L ≠ []) : endV L (L.foldl stepK []) ≠ [] := by
  rcases List.eq_nil_or_concat L with rfl | ⟨P, x, rfl⟩
  · exact absurd rfl hL
  · rw [List.concat_eq_append]
    unfold endV
    rw [getLastD_append]
    split
    · simp
    · rename_i h
      have h0 : dotV x = 0 := by rcases dotV_cases x with h | h | h <;> omega
      rw [List.foldl_append, List.foldl_cons, List.foldl_nil, stepK, if_pos h0]
      simp
theorem kept_ne (p : Bs) : keptV p ≠ [] := end_ne _ (splitC_ne _ _)
theorem kept_wt (p : Bs) : wtV (keptV p) ≤ p.length + 1 := by
  have h1 := wt_end (splitC 47 (trimV p)) (splitC_ne _ _)
  rw [wtV_split] at h1
  have := trimV_le p
  unfold keptV
  omega
theorem clean_length (p : Bs) : (cleanV p).length ≤ p.length + 1 := by
  have h1 := kept_wt p
  have h2 := joinV_wt _ (kept_ne p)
  unfold cleanV
  rw [List.length_cons]
  omega
theorem join_data (l : List Bs) : joinB (l.map bsOf) (⟨#[47]⟩ : ByteArray) = bsOf (joinV l) := by
  unfold joinB joinV
  rw [List.map_map]
  congr 1
  show Lib.join (l.map fun x => (bsOf x).data.toList) ([47] : List UInt8) = _
  simp [bsOf_data]
theorem join_evV (l : List Bs) (h : wtV l ≤ 100000) : strings_Join.f (l.map bsOf) (⟨#[47]⟩ : ByteArray) = some (bsOf (joinV l)) := by
  have h1 := wtV_length l
  have h2 := joinV_le l
  have h3 : (Lib.join ((l.map bsOf).map (·.data.toList)) ((⟨#[47]⟩ : ByteArray)).data.toList).length = (joinV l).length := by
    have := congrArg (fun s : ByteArray => s.data.toList.length) (join_data l)
    simpa [joinB, bsOf_data] using this
  unfold strings_Join.f
  rw [if_pos ⟨by rw [List.length_map]; omega, by rw [h3]; omega⟩, join_data]
theorem cleanl0_ev (L : List Bs) (hL : L ≠ []) (hw : wtV L ≤ 50000) : ∀ n i (K : List Bs), i + n = L.length → wtV K + wtV (L.drop i) ≤ 60000 →
    Ev (fun k => target_Clean.l0 k (L.map bsOf) (K.map bsOf) (L.map bsOf) (L.length : Int) (i : Int)) (bsOf (47 :: joinV (endV L ((L.drop i).foldl stepK K)))) := by
  have hl := wtV_length L
  intro n
  induction n with
  | zero =>
    intro i K hi hK
    rw [List.drop_of_length_le (by omega)] at hK ⊢
    rw [show wtV ([] : List Bs) = 0 from rfl] at hK
    have hpos : 0 < L.length := List.length_pos_iff.2 hL
    have e1 : wrap64 ((L.length : Int) - 1) = ((L.length - 1 : Nat) : Int) := by unfold wrap64; omega
    have hlt : L.length - 1 < L.length := by omega
    have hlt' : L.length - 1 < (L.map bsOf).length := by simpa using hlt
    have hm : (L.map bsOf).length = L.length := by simp
    have hlast : (L.map bsOf)[L.length - 1] = bsOf (L.getLastD []) := by
      rw [List.getElem_map]
      congr 1
      rw [List.getLastD_eq_getLast?, List.getLast?_eq_getElem?, List.getElem?_eq_getElem hlt]
      rfl
    have hmem : L.getLastD [] ∈ L := by
      rcases List.eq_nil_or_concat L with rfl | ⟨P, x, rfl⟩
      · exact absurd rfl hL
      · simp
    have hz := wtV_mem hmem
    have hd := dots_ev (bsOf (L.getLastD [])) (by rw [size_bsOf]; omega)
    rw [bsOf_data] at hd
    refine evSucc ?_
    simp only [target_Clean.l0, e1, List.foldl_nil, hm]
    rw [rdOf_get _ _ hlt', hlast]
    have hk := wtV_length K
    have hj := joinV_le K
    by_cases h0 : dotV (L.getLastD []) > 0
    · have hjoin := join_evV (K ++ [[]]) (by rw [wtV_append, wtV_one]; simp only [List.length_nil]; omega)
      have hj1 := joinV_le (K ++ [[]])
      rw [wtV_append, wtV_one, List.length_nil] at hj1
      rw [List.map_append] at hjoin
      unfold endV
      rw [if_pos h0]
      exact evNeg (by omega) (evPos (by omega) (evPos (by omega) (Ev.bind hd (evPos h0 (evPos (by rw [List.length_map]; omega) (evBind hjoin (evPos (by rw [size_bsOf]; omega) (evEq (Ev.now _) (ba_ext (by rw [append_list, bsOf_data, bsOf_data]; rfl)))))))))) 
    · have hjoin := join_evV K (by omega)
      unfold endV
      rw [if_neg h0]
      exact evNeg (by omega) (evPos (by omega) (evPos (by omega) (Ev.bind hd (evNeg h0 (evBind hjoin (evPos (by rw [size_bsOf]; omega) (evEq (Ev.now _) (ba_ext (by rw [append_list, bsOf_data, bsOf_data]; rfl)))))))))
  | succ n ih =>
    intro i K hi hK
    have hlt : i < L.length := by omega
    have hlt' : i < (L.map bsOf).length := by simpa using hlt
    have hm : (L.map bsOf).length = L.length := by simp
    have e2 : wrap64 ((i : Int) + 1) = ((i + 1 : Nat) : Int) := by unfold wrap64; omega
    rw [List.drop_eq_getElem_cons hlt, wtV_cons] at hK
    have hk := wtV_length K
    have eK : wrap64 ((K.length : Int) - 1) = (K.length : Int) - 1 := by unfold wrap64; omega
    have m0 : 0 ≤ mx ((K.length : Int) - 1) 0 ∧ mx ((K.length : Int) - 1) 0 ≤ (K.length : Int) := by unfold mx; split <;> omega
    have m1 : (mx ((K.length : Int) - 1) 0).toNat = K.length - 1 := by unfold mx; split <;> omega
    have hd := dots_ev (bsOf L[i]) (by rw [size_bsOf]; omega)
    rw [bsOf_data] at hd
    have hs := wt_step K L[i]
    have IH := ih (i + 1) (stepK K L[i]) (by omega) (by omega)
    rw [List.drop_eq_getElem_cons hlt, List.foldl_cons]
    have eK' : ((K.map bsOf).length : Int) = (K.length : Int) := by simp
    refine evSucc ?_
    simp only [target_Clean.l0, e2, eK', eK]
    rw [rdOf_get _ _ hlt', List.getElem_map, m1]
    unfold stepK at IH ⊢
    by_cases h0 : dotV L[i] = 0
    · rw [if_pos h0] at IH ⊢
      rw [List.map_append] at IH
      exact evPos (by omega) (evPos (by omega) (evPos (by omega) (Ev.bind hd (evPos h0 (evPos (by rw [List.length_map]; omega) IH)))))
    · rw [if_neg h0] at IH ⊢
      by_cases h2 : dotV L[i] = 2
      · rw [if_pos h2] at IH ⊢
        rw [List.map_dropLast, List.dropLast_eq_take, List.length_map] at IH
        exact evPos (by omega) (evPos (by omega) (evPos (by omega) (Ev.bind hd (evNeg h0 (evPos h2 (evPos m0.1 (evPos m0.2 IH)))))))
      · rw [if_neg h2] at IH ⊢
        exact evPos (by omega) (evPos (by omega) (evPos (by omega) (Ev.bind hd (evNeg h0 (evNeg h2 IH)))))
theorem prefix1_f (s : ByteArray) (c : UInt8) : stringslite_HasPrefix.f s ⟨#[c]⟩ = some (s.data.toList.head? == some c) := by
  unfold stringslite_HasPrefix.f
  have h1 : (⟨#[c]⟩ : ByteArray).size = 1 := rfl
  have hz := size_len s
  rw [h1]
  cases hs : s.data.toList with
  | nil =>
    rw [hs] at hz
    simp only [List.length_nil] at hz
    rw [if_neg (by omega)]
    rfl
  | cons b r =>
    rw [hs, List.length_cons] at hz
    rw [if_pos (by omega), if_pos (by omega), if_pos (by omega), tl, tl, extract_list, hs]
    show some ((b :: r).take 1 == [c]) = some (some b == some c)
    by_cases e : b = c
    · subst e; simp
    · rw [show ((b :: r).take 1 == [c]) = false by simpa using e, show (some b == some c) = false by simpa using e]
theorem trim_evV (s : ByteArray) : strings_TrimPrefix.f s (⟨#[47]⟩ : ByteArray) = some (bsOf (trimV s.data.toList)) := by
  unfold strings_TrimPrefix.f stringslite_TrimPrefix.f
  rw [prefix1_f]
  have h1 : ((⟨#[47]⟩ : ByteArray)).size = 1 := rfl
  have hz := size_len s
  rw [h1]
  cases hs : s.data.toList with
  | nil =>
    simp only [Option.bind_some]
    show some s = _
    rw [← bsOf_of s, hs]
    rfl
  | cons b r =>
    rw [hs, List.length_cons] at hz
    simp only [Option.bind_some]
    by_cases e : b = 47
    · subst e
      rw [if_pos (by simp), if_pos (by omega), if_pos (by omega)]
      show some (s.extract ((1 : Nat) : Int).toNat s.size) = some _
      refine congrArg some (ba_ext ?_)
      rw [extract_list, bsOf_data, hs, hz]
      simp [trimV]
    · rw [if_neg (by simpa using e)]
      show some s = _
      rw [← bsOf_of s, hs]
      simp [trimV, e]
theorem clean_ev (s : ByteArray) (h : s.size ≤ 20000) : Ev (fun k => target_Clean.f k s) (bsOf (cleanV s.data.toList)) := by
  have h0 := size_len s
  have h1 := trimV_le s.data.toList
  have h2 := wtV_split 47 (trimV s.data.toList)
  have := cleanl0_ev (splitC 47 (trimV s.data.toList)) (splitC_ne _ _) (by omega) _ 0 [] (Nat.zero_add _) (by simp only [List.drop_zero]; rw [show wtV ([] : List Bs) = 0 from rfl]; omega)
  unfold target_Clean.f
  refine evBind (trim_evV s) (evBind (split1_f _ 47 (by rw [size_bsOf]; omega)) ?_)
  rw [splitL_bs, bsOf_data]
  exact evEq (r := bsOf (47 :: joinV (endV (splitC 47 (trimV s.data.toList)) ((splitC 47 (trimV s.data.toList)).foldl stepK [])))) (by simpa using this) rfl
def allC (m : Bs) (c : UInt8) : Bool := decide (33 ≤ c.toNat) && decide (c.toNat ≤ 126) && !m.contains c
def allV (m s : Bs) : Bool := s.all (allC m)
def notP : Bs := ([34, 35, 60, 62, 63, 92, 94] : List UInt8) ++ [123, 124, 125, 96]
def notQ : Bs := ([34, 35, 60, 62] : List UInt8)
theorem index_has (l : Bs) (c : UInt8) : (Lib.indexByte l c ≥ 0) ↔ c ∈ l := by
  by_cases h : c ∈ l
  · obtain ⟨p, r, e, hp⟩ := List.eq_append_cons_of_mem h
    rw [e, indexByte_at p r c hp]
    simp
  · rw [indexByte_not l c h]
    simp [h]
theorem all_evV (s m : ByteArray) (hs : s.size ≤ 4611686018427387904) : Ev (fun k => target_all.f k s m) (allV m.data.toList s.data.toList) := by
  have key : ∀ r p : Bs, s.data.toList = p ++ r → Ev (fun k => target_all.l0 k s m (s.size : Int) (p.length : Int)) (allV m.data.toList r) := by
    intro r
    induction r with
    | nil =>
      intro p hp
      have hl : s.size = p.length := by rw [size_len, hp]; simp
      refine evSucc ?_
      simp only [target_all.l0]
      exact evNeg (by omega) (Ev.now _)
    | cons c r ih =>
      intro p hp
      have hl : s.size = p.length + (r.length + 1) := by rw [size_len, hp]; simp
      have hb := bt_mid s p c r hp
      have e1 : wrap64 ((p.length : Int) + 1) = ((p ++ [c]).length : Int) := by simp; unfold wrap64; omega
      have hr := ih (p ++ [c]) (by rw [hp]; simp)
      have ec : ((c.toNat : Int)).toNat.toUInt8 = c := by simp
      have hv : allV m.data.toList (c :: r) = (allC m.data.toList c && allV m.data.toList r) := rfl
      have hi := index_has m.data.toList c
      rw [hv]
      refine evSucc ?_
      simp only [target_all.l0, hb, e1]
      unfold allC
      by_cases h1 : (c.toNat : Int) < 33
      · rw [show decide (33 ≤ c.toNat) = false from decide_eq_false (by omega)]
        exact evPos (by omega) (evPos (by omega) (evPos (by omega) (evPos h1 (Ev.now _))))
      · by_cases h2 : (c.toNat : Int) > 126
        · rw [show decide (c.toNat ≤ 126) = false from decide_eq_false (by omega), Bool.and_false]
          exact evPos (by omega) (evPos (by omega) (evPos (by omega) (evNeg h1 (evPos h2 (Ev.now _)))))
        · rw [show decide (33 ≤ c.toNat) = true from decide_eq_true (by omega), show decide (c.toNat ≤ 126) = true from decide_eq_true (by omega)]
          refine evPos (by omega) (evPos (by omega) (evPos (by omega) (evNeg h1 (evNeg h2 (evBind (show strings_IndexByte.f m (c.toNat : Int) = some (Lib.indexByte m.data.toList c) by rw [← congrArg (Lib.indexByte m.data.toList) ec]; rfl) ?_)))))
          by_cases h3 : Lib.indexByte m.data.toList c ≥ 0
          · rw [show m.data.toList.contains c = true by simpa using hi.1 h3]
            exact evPos h3 (Ev.now _)
          · rw [show m.data.toList.contains c = false by simpa using fun x => h3 (hi.2 x)]
            exact evNeg h3 (by simpa using hr)
  unfold target_all.f
  exact key s.data.toList [] rfl
def tshowS (a b : ByteArray) (p : Int) (c d : ByteArray) : ByteArray := showS a b p ++ c ++ d
theorem showS_size (a b : ByteArray) (p : Int) : (showS a b p).size ≤ 1000 := by
  by_cases h : chkS a b p = true
  · exact (chk_size h).1
  · unfold showS keyS
    rw [if_neg h, if_neg h]
    exact Nat.zero_le _
theorem tshow_ev (a b c d : ByteArray) (p : Int) (ha : a.size ≤ 100000) (hb : b.size ≤ 100000) (hc : c.size ≤ 10000000) (hd : d.size ≤ 10000000) : Ev (fun k => target_show.f k a b p c d) (tshowS a b p c d) := by
  have hz := showS_size a b p
  have z1 : (showS a b p ++ c).size = (showS a b p).size + c.size := ByteArray.size_append
  unfold target_show.f
  exact Ev.bind (show_ev a b p ha hb) (evPos (by omega) (evPos (by omega) (Ev.now _)))
def pathB (c : ByteArray) : Bool := if (c.data.toList.head? == some 47) = true then (if allV notP c.data.toList = true then cleanV c.data.toList == c.data.toList else false) else false
def queryB (d : ByteArray) : Bool := if d.data.toList = [] then true else if (d.data.toList.head? == some 63) = true then allV notQ d.data.toList else false
def tchkS (a b : ByteArray) (p : Int) (c d : ByteArray) : Bool := chkS a b p && pathB c && queryB d && decide (((tshowS a b p c d).size : Int) ≤ 512)
theorem hasp_f (s : ByteArray) (c : UInt8) : strings_HasPrefix.f s ⟨#[c]⟩ = some (s.data.toList.head? == some c) := by
  unfold strings_HasPrefix.f
  rw [prefix1_f]
  rfl
theorem tchk_ev (a b c d : ByteArray) (p : Int) (ha : a.size ≤ 100000) (hb : b.size ≤ 100000) (hc : c.size ≤ 20000) (hd : d.size ≤ 20000) : Ev (fun k => target_Check.f k a b p c d) (tchkS a b p c d) := by
  have hj : ∀ x : Bool, Ev (fun k => target_Check.j0 k x a b p c d) (chkS a b p && x && queryB d && decide (((tshowS a b p c d).size : Int) ≤ 512)) := by
    intro x
    have hs := tshow_ev a b c d p ha hb (by omega) (by omega)
    refine evSucc ?_
    simp only [target_Check.j0, tl]
    unfold queryB
    by_cases h1 : d.data.toList = []
    · rw [if_pos h1]
      refine evPos h1 (Ev.bind (chk_ev a b p hb) ?_)
      cases chkS a b p with
      | false => exact evNeg (by decide) (Ev.now _)
      | true =>
        refine evPos rfl ?_
        cases x with
        | false => exact evNeg (by decide) (Ev.now _)
        | true => exact evPos rfl (Ev.bind hs (Ev.now _))
    · rw [if_neg h1]
      refine evNeg h1 (evBind (hasp_f d 63) ?_)
      cases (d.data.toList.head? == some 63) with
      | false =>
        refine evNeg (by decide) (Ev.bind (chk_ev a b p hb) ?_)
        cases chkS a b p with
        | false => exact evNeg (by decide) (Ev.now _)
        | true =>
          refine evPos rfl ?_
          cases x with
          | false => exact evNeg (by decide) (Ev.now _)
          | true => exact evPos rfl (Ev.now _)
      | true =>
        refine evPos rfl (Ev.bind (all_evV d (⟨#[34, 35, 60, 62]⟩ : ByteArray) (by omega)) (Ev.bind (chk_ev a b p hb) ?_))
        show Ev _ (chkS a b p && x && (if true = true then allV notQ d.data.toList else false) && _)
        rw [if_pos rfl]
        cases chkS a b p with
        | false => exact evNeg (by decide) (Ev.now _)
        | true =>
          refine evPos rfl ?_
          cases x with
          | false => exact evNeg (by decide) (Ev.now _)
          | true =>
            refine evPos rfl ?_
            show Ev _ (true && true && allV notQ d.data.toList && _)
            cases h : allV notQ d.data.toList with
            | false => exact evNeg (by rw [show allV ((⟨#[34, 35, 60, 62]⟩ : ByteArray)).data.toList d.data.toList = allV notQ d.data.toList from rfl, h]; decide) (Ev.now _)
            | true => exact evPos h (Ev.bind hs (Ev.now _))
  unfold target_Check.f tchkS pathB
  refine evBind (hasp_f c 47) ?_
  cases (c.data.toList.head? == some 47) with
  | false =>
    rw [if_neg (by decide)]
    exact evNeg (by decide) (hj false)
  | true =>
    rw [if_pos rfl]
    refine evPos rfl (Ev.bind (all_evV c _ (by omega)) ?_)
    show Ev (fun k => if allV notP c.data.toList = true then _ else _) _
    cases allV notP c.data.toList with
    | false =>
      rw [if_neg (by decide)]
      exact evNeg (by decide) (hj false)
    | true =>
      rw [if_pos rfl]
      refine evPos rfl (Ev.bind (clean_ev c hc) ?_)
      rw [tl_beq, bsOf_data]
      exact hj _
def tShowS (a b : ByteArray) (p : Int) (c d : ByteArray) : ByteArray := if tchkS a b p c d = true then tshowS a b p c d else ⟨#[]⟩
theorem tShow_ev (a b c d : ByteArray) (p : Int) (ha : a.size ≤ 100000) (hb : b.size ≤ 100000) (hc : c.size ≤ 20000) (hd : d.size ≤ 20000) : Ev (fun k => target_Show.f k a b p c d) (tShowS a b p c d) := by
  unfold target_Show.f tShowS
  exact Ev.bind (tchk_ev a b c d p ha hb hc hd) (evIte (fun _ => Ev.bind (tshow_ev a b c d p ha hb (by omega) (by omega)) (Ev.now _)) fun _ => Ev.now _)
abbrev UT := ByteArray × ByteArray × Int × ByteArray × ByteArray × Int
def noU (e : Int) : UT := (⟨#[]⟩, ⟨#[]⟩, 0, ⟨#[]⟩, ⟨#[]⟩, e)
def fitU (a b : ByteArray) (p : Int) (c d : ByteArray) : UT := if ((tshowS a b p c d).size : Int) > 512 then noU 4 else (a, b, p, c, d, 0)
def askQ (q : ByteArray × ByteArray × Bool) : ByteArray := if q.2.2 = true then (⟨#[63]⟩ : ByteArray) ++ q.2.1 else ⟨#[]⟩
def urlS (o : OT) (q : ByteArray × ByteArray × Bool) : UT :=
  if allV notP q.1.data.toList = true ∧ allV notQ q.2.1.data.toList = true then fitU o.1 o.2.1 o.2.2.1 (bsOf (cleanV q.1.data.toList)) (askQ q) else noU 3
def endsAt (rest : ByteArray) : Nat := if Lib.indexAny rest.data.toList ([47, 63] : List UInt8) < 0 then rest.size else (Lib.indexAny rest.data.toList ([47, 63] : List UInt8)).toNat
def restU (sch rest : ByteArray) : UT :=
  if (parseS (sch ++ sSep ++ rest.extract 0 (endsAt rest))).2.2.2 = 0 then urlS (parseS (sch ++ sSep ++ rest.extract 0 (endsAt rest))) (cutS (rest.extract (endsAt rest) rest.size) (⟨#[63]⟩ : ByteArray))
  else noU (parseS (sch ++ sSep ++ rest.extract 0 (endsAt rest))).2.2.2
def bodyU (s : ByteArray) : UT := if (cutS s sSep).2.2 = true then restU (cutS s sSep).1 (cutS s sSep).2.1 else noU 3
def tparseS (s : ByteArray) : UT := if (s.size : Int) > 512 then noU 4 else bodyU (cutS s (⟨#[35]⟩ : ByteArray)).1
theorem tparse_j1 (c q : ByteArray) (h x : Bool) (a b : ByteArray) (p : Int) (hc : c.size ≤ 600) (hq : q.size ≤ 600) (ha : a.size ≤ 100000) (hb : b.size ≤ 100000) :
    Ev (fun k => target_Parse.j1 k c q h x a b p) (if x = true then noU 3 else fitU a b p (bsOf (cleanV c.data.toList)) (if h = true then (⟨#[63]⟩ : ByteArray) ++ q else ⟨#[]⟩)) := by
  cases x with
  | true =>
    refine evSucc ?_
    simp only [target_Parse.j1, if_true]
    exact Ev.now _
  | false =>
    have hcl := clean_length c.data.toList
    have hcz := size_len c
    have hz : (bsOf (cleanV c.data.toList)).size ≤ 601 := by rw [size_bsOf]; omega
    refine evSucc ?_
    simp only [target_Parse.j1, Bool.false_eq_true, if_false]
    refine Ev.bind (clean_ev c (by omega)) ?_
    cases h with
    | true =>
      have zq : ((⟨#[63]⟩ : ByteArray) ++ q).size = 1 + q.size := by rw [ByteArray.size_append]; rfl
      rw [if_pos rfl]
      unfold fitU
      exact evPos rfl (evPos (by omega) (Ev.bind (tshow_ev a b _ ((⟨#[63]⟩ : ByteArray) ++ q) p ha hb (by omega) (by omega)) (evIte (fun _ => Ev.now _) fun _ => Ev.now _)))
    | false =>
      rw [if_neg (by decide)]
      unfold fitU
      exact evNeg (by decide) (Ev.bind (tshow_ev a b _ (⟨#[]⟩ : ByteArray) p ha hb (by omega) (Nat.zero_le _)) (evIte (fun _ => Ev.now _) fun _ => Ev.now _))
theorem tparse_j0 (a b : ByteArray) (n : Nat) (ha : a.size ≤ 512) (hb : b.size ≤ 512) (hn : n ≤ b.size) :
    Ev (fun k => target_Parse.j0 k a b (n : Int)) (if (parseS (a ++ sSep ++ b.extract 0 n)).2.2.2 = 0 then urlS (parseS (a ++ sSep ++ b.extract 0 n)) (cutS (b.extract n b.size) (⟨#[63]⟩ : ByteArray)) else noU (parseS (a ++ sSep ++ b.extract 0 n)).2.2.2) := by
  have z1 : (a ++ sSep).size = a.size + 3 := by rw [ByteArray.size_append]; rfl
  have z2 : (b.extract 0 n).size ≤ 512 := by rw [ByteArray.size_extract]; omega
  have z3 : (b.extract n b.size).size ≤ 512 := by rw [ByteArray.size_extract]; omega
  have z4 : (a ++ sSep ++ b.extract 0 n).size ≤ 1100 := by rw [ByteArray.size_append, z1]; omega
  have hp := parse_ev (a ++ sSep ++ b.extract 0 n) (by omega)
  obtain ⟨p1, p2⟩ := parse_sizes (a ++ sSep ++ b.extract 0 n) (by omega)
  have c1 := cutS_size (b.extract n b.size) (⟨#[63]⟩ : ByteArray)
  generalize hq : cutS (b.extract n b.size) (⟨#[63]⟩ : ByteArray) = q at c1 ⊢
  have hcut : strings_Cut.f (b.extract n b.size) (⟨#[63]⟩ : ByteArray) = some q := by rw [← hq]; exact cut_f _ _ (by omega)
  refine evSucc ?_
  simp only [target_Parse.j0, Int.toNat_natCast]
  refine evPos (by omega) (evPos (by omega) (evPos (by omega) (evPos (by show (a ++ sSep).size + _ ≤ _; omega) (Ev.bind hp (evIte (fun h0 => evBind hcut ?_) fun h0 => Ev.now _)))))
  unfold urlS
  refine Ev.bind (all_evV q.1 _ (by omega)) ?_
  show Ev (fun k => if allV notP q.1.data.toList = true then _ else _) _
  by_cases h1 : allV notP q.1.data.toList = true
  · refine evPos h1 (Ev.bind (all_evV q.2.1 _ (by omega)) ?_)
    show Ev (fun k => target_Parse.j1 k q.1 q.2.1 q.2.2 (!allV notQ q.2.1.data.toList) _ _ _) _
    refine evEq (tparse_j1 q.1 q.2.1 q.2.2 _ _ _ _ (by omega) (by omega) p1 p2) ?_
    by_cases h2 : allV notQ q.2.1.data.toList = true
    · rw [show (!allV notQ q.2.1.data.toList) = false by rw [h2]; rfl, if_neg (by decide)]
      exact (if_pos (And.intro h1 h2)).symm
    · rw [show (!allV notQ q.2.1.data.toList) = true by simpa using h2, if_pos rfl, if_neg (fun h => h2 h.2)]
  · rw [if_neg (fun h => h1 h.1)]
    exact evNeg h1 (tparse_j1 q.1 q.2.1 q.2.2 true _ _ _ (by omega) (by omega) p1 p2)
theorem indexAny_le (m l : Bs) : Lib.indexAny l m ≤ (l.length : Int) := by
  induction l with
  | nil => simp [Lib.indexAny]
  | cons b l ih =>
    rw [Lib.indexAny]
    split
    · simp; omega
    · split
      · simp; omega
      · simp; omega
theorem endsAt_le (rest : ByteArray) : endsAt rest ≤ rest.size := by
  have := indexAny_le ([47, 63] : List UInt8) rest.data.toList
  rw [← size_len] at this
  unfold endsAt
  split <;> omega
theorem body_ev (s : ByteArray) (hs : s.size ≤ 512) : Ev (fun k => (strings_Cut.f s sSep).bind fun bt317 => (if bt317.2.2 = true then ((strings_IndexAny.f bt317.2.1 (⟨#[47, 63]⟩ : ByteArray)).bind fun t320 => (if t320 < 0 then (target_Parse.j0 k bt317.1 bt317.2.1 (bt317.2.1.size : Int)) else (target_Parse.j0 k bt317.1 bt317.2.1 t320))) else (some ((⟨#[]⟩ : ByteArray), (⟨#[]⟩ : ByteArray), 0, (⟨#[]⟩ : ByteArray), (⟨#[]⟩ : ByteArray), 3)))) (bodyU s) := by
  have c1 := cutS_size s sSep
  unfold bodyU
  refine evBind (cut_f s sSep (by omega)) (evIte (fun hf => ?_) fun _ => Ev.now _)
  have hia : strings_IndexAny.f (cutS s sSep).2.1 (⟨#[47, 63]⟩ : ByteArray) = some (Lib.indexAny (cutS s sSep).2.1.data.toList ([47, 63] : List UInt8)) := by
    unfold strings_IndexAny.f
    rw [if_pos ⟨by decide, by decide, by omega, by decide⟩]
  refine evBind hia ?_
  have hle := endsAt_le (cutS s sSep).2.1
  have hj := tparse_j0 (cutS s sSep).1 (cutS s sSep).2.1 (endsAt (cutS s sSep).2.1) (by omega) (by omega) hle
  unfold restU
  by_cases h0 : Lib.indexAny (cutS s sSep).2.1.data.toList ([47, 63] : List UInt8) < 0
  · have e : endsAt (cutS s sSep).2.1 = (cutS s sSep).2.1.size := by unfold endsAt; rw [if_pos h0]
    refine evPos h0 ?_
    rw [e] at hj ⊢
    exact hj
  · have e : (endsAt (cutS s sSep).2.1 : Int) = Lib.indexAny (cutS s sSep).2.1.data.toList ([47, 63] : List UInt8) := by unfold endsAt; rw [if_neg h0]; omega
    refine evNeg h0 ?_
    rw [← e]
    exact hj
theorem tparse_ev (s : ByteArray) (hs : s.size ≤ 4000000000) : Ev (fun k => target_Parse.f k s) (tparseS s) := by
  have c1 := cutS_size s (⟨#[35]⟩ : ByteArray)
  unfold target_Parse.f tparseS
  refine evIte (fun _ => Ev.now _) fun h => evBind (cut_f s _ (by omega)) (body_ev _ (by omega))
theorem indexAny_at (m p r : Bs) (c : UInt8) (hp : ∀ x ∈ p, m.contains x = false) (hc : m.contains c = true) : Lib.indexAny (p ++ c :: r) m = (p.length : Int) := by
  induction p with
  | nil =>
    rw [List.nil_append, Lib.indexAny, if_pos hc]
    rfl
  | cons b p ih =>
    have := ih fun x hx => hp x (by simp [hx])
    rw [List.cons_append, Lib.indexAny, if_neg (by rw [hp b (by simp)]; decide), this, if_neg (by simp only [beq_iff_eq]; omega), List.length_cons]
    omega
theorem indexAny_not (m p : Bs) (hp : ∀ x ∈ p, m.contains x = false) : Lib.indexAny p m = -1 := by
  induction p with
  | nil => rfl
  | cons b p ih =>
    have := ih fun x hx => hp x (by simp [hx])
    rw [Lib.indexAny, if_neg (by rw [hp b (by simp)]; decide), this]
    rfl
theorem tparse_sizes (s : ByteArray) (hs : s.size ≤ 4000000000) : (tparseS s).1.size ≤ 100000 ∧ (tparseS s).2.1.size ≤ 100000 ∧ (tparseS s).2.2.2.1.size ≤ 20000 ∧ (tparseS s).2.2.2.2.1.size ≤ 20000 := by
  have z : (⟨#[]⟩ : ByteArray).size = 0 := rfl
  have hno : ∀ e, (noU e).1.size ≤ 100000 ∧ (noU e).2.1.size ≤ 100000 ∧ (noU e).2.2.2.1.size ≤ 20000 ∧ (noU e).2.2.2.2.1.size ≤ 20000 := by
    intro e
    unfold noU
    dsimp only
    omega
  unfold tparseS
  split
  · exact hno 4
  · rename_i hz
    have c1 := cutS_size s (⟨#[35]⟩ : ByteArray)
    have c2 := cutS_size (cutS s (⟨#[35]⟩ : ByteArray)).1 sSep
    unfold bodyU
    split
    · unfold restU
      split
      · have z1 : ((cutS (cutS s (⟨#[35]⟩ : ByteArray)).1 sSep).1 ++ sSep).size = (cutS (cutS s (⟨#[35]⟩ : ByteArray)).1 sSep).1.size + 3 := by rw [ByteArray.size_append]; rfl
        have z2 : ((cutS (cutS s (⟨#[35]⟩ : ByteArray)).1 sSep).2.1.extract 0 (endsAt (cutS (cutS s (⟨#[35]⟩ : ByteArray)).1 sSep).2.1)).size ≤ 512 := by rw [ByteArray.size_extract]; omega
        have z3 : ((cutS (cutS s (⟨#[35]⟩ : ByteArray)).1 sSep).2.1.extract (endsAt (cutS (cutS s (⟨#[35]⟩ : ByteArray)).1 sSep).2.1) (cutS (cutS s (⟨#[35]⟩ : ByteArray)).1 sSep).2.1.size).size ≤ 512 := by rw [ByteArray.size_extract]; omega
        have hps := parse_sizes ((cutS (cutS s (⟨#[35]⟩ : ByteArray)).1 sSep).1 ++ sSep ++ (cutS (cutS s (⟨#[35]⟩ : ByteArray)).1 sSep).2.1.extract 0 (endsAt (cutS (cutS s (⟨#[35]⟩ : ByteArray)).1 sSep).2.1)) (by rw [ByteArray.size_append, z1]; omega)
        have c3 := cutS_size ((cutS (cutS s (⟨#[35]⟩ : ByteArray)).1 sSep).2.1.extract (endsAt (cutS (cutS s (⟨#[35]⟩ : ByteArray)).1 sSep).2.1) (cutS (cutS s (⟨#[35]⟩ : ByteArray)).1 sSep).2.1.size) (⟨#[63]⟩ : ByteArray)
        generalize parseS ((cutS (cutS s (⟨#[35]⟩ : ByteArray)).1 sSep).1 ++ sSep ++ (cutS (cutS s (⟨#[35]⟩ : ByteArray)).1 sSep).2.1.extract 0 (endsAt (cutS (cutS s (⟨#[35]⟩ : ByteArray)).1 sSep).2.1)) = o at hps ⊢
        generalize cutS ((cutS (cutS s (⟨#[35]⟩ : ByteArray)).1 sSep).2.1.extract (endsAt (cutS (cutS s (⟨#[35]⟩ : ByteArray)).1 sSep).2.1) (cutS (cutS s (⟨#[35]⟩ : ByteArray)).1 sSep).2.1.size) (⟨#[63]⟩ : ByteArray) = q at c3 ⊢
        unfold urlS
        split
        · unfold fitU
          split
          · exact hno 4
          · have hcl := clean_length q.1.data.toList
            have hq := size_len q.1
            have hz2 : (bsOf (cleanV q.1.data.toList)).size = (cleanV q.1.data.toList).length := size_bsOf _
            have hz3 : (askQ q).size ≤ q.2.1.size + 1 := by
              unfold askQ
              split
              · rw [ByteArray.size_append, show ((⟨#[63]⟩ : ByteArray)).size = 1 from rfl]; omega
              · omega
            dsimp only
            omega
        · exact hno 3
      · exact hno _
    · exact hno 3
def slashV (l : List Bs) : Bs := (l.map (fun s => 47 :: s)).flatten
theorem slashV_append (a b : List Bs) : slashV (a ++ b) = slashV a ++ slashV b := by simp [slashV]
theorem slashV_one (a : Bs) : slashV [a] = 47 :: a := by simp [slashV]
theorem slashV_join (l : List Bs) (h : l ≠ []) : slashV l = 47 :: joinV l := by
  induction l with
  | nil => exact absurd rfl h
  | cons a l ih =>
    cases l with
    | nil => rw [slashV_one, joinV_one]
    | cons b l =>
      rw [joinV_cons, ← ih (by simp)]
      simp [slashV]
theorem rdots_ev (x : ByteArray) (h : x.size ≤ 9223372036854775807) : Ev (fun k => lockkeeperref4_dots.f k x) (dotV x.data.toList) := by
  have hj : ∀ b : Bool, Ev (fun k => lockkeeperref4_dots.j0 k (lowB x) b) (if b = true then 1 else if lowL x.data.toList = ([46, 46] : List UInt8) then 2 else if lowL x.data.toList = ([46, 37, 50, 101] : List UInt8) then 2 else if lowL x.data.toList = ([37, 50, 101, 46] : List UInt8) then 2 else if lowL x.data.toList = ([37, 50, 101, 37, 50, 101] : List UInt8) then 2 else 0) := fun b => by
    refine evSucc ?_
    simp only [lockkeeperref4_dots.j0, tl, lowB_data]
    exact evIte (fun _ => Ev.now _) fun _ => evIte (fun _ => Ev.now _) fun _ => evIte (fun _ => Ev.now _) fun _ => evIte (fun _ => Ev.now _) fun _ => evIte (fun _ => Ev.now _) fun _ => Ev.now _
  unfold lockkeeperref4_dots.f
  refine evBind (rlower_f x h) ?_
  simp only [tl, lowB_data]
  unfold dotV
  by_cases h1 : lowL x.data.toList = ([46] : List UInt8)
  · rw [if_pos h1]
    refine evPos h1 ?_
    rw [h1]
    exact hj true
  · rw [if_neg h1]
    refine evNeg h1 ?_
    by_cases h2 : lowL x.data.toList = ([37, 50, 101] : List UInt8)
    · rw [if_pos h2, h2]
      exact hj true
    · rw [if_neg h2, show (lowL x.data.toList == ([37, 50, 101] : List UInt8)) = false by simpa using h2]
      exact hj false
def finV (K : List Bs) : Bs := if slashV K = [] then ([47] : List UInt8) else slashV K
theorem slashV_wt (l : List Bs) : (slashV l).length = wtV l := by
  induction l with
  | nil => rfl
  | cons a l ih =>
    rw [wtV_cons, ← ih]
    simp [slashV]
    omega
theorem wtV_take (l : List Bs) (i : Nat) : wtV (l.take i) ≤ wtV l := by
  have := wtV_append (l.take i) (l.drop i)
  rw [List.take_append_drop] at this
  omega
theorem rclean_l1 (K : List Bs) (hK : wtV K ≤ 1000000) : ∀ n i, i + n = K.length → Ev (fun k => lockkeeperref4_Clean.l1 k (K.map bsOf) (bsOf (slashV (K.take i))) (i : Int)) (bsOf (finV K)) := by
  have hl := wtV_length K
  have hm : (K.map bsOf).length = K.length := by simp
  intro n
  induction n with
  | zero =>
    intro i hi
    refine evSucc ?_
    simp only [lockkeeperref4_Clean.l1, hm]
    refine evNeg (by omega) ?_
    rw [List.take_of_length_le (by omega), tl, bsOf_data]
    unfold finV
    by_cases h : slashV K = []
    · exact evPos h (evEq (Ev.now _) (by rw [if_pos h]; rfl))
    · exact evNeg h (evEq (Ev.now _) (by rw [if_neg h]))
  | succ n ih =>
    intro i hi
    have hlt : i < K.length := by omega
    have hlt' : i < (K.map bsOf).length := by omega
    have e2 : wrap64 ((i : Int) + 1) = ((i + 1 : Nat) : Int) := by unfold wrap64; omega
    have z1 : (bsOf (slashV (K.take i)) ++ (⟨#[47]⟩ : ByteArray)).size = wtV (K.take i) + 1 := by rw [ByteArray.size_append, size_bsOf, slashV_wt]; rfl
    have z2 := wtV_take K i
    have z3 := wtV_mem (List.getElem_mem hlt)
    have z4 : (bsOf (slashV (K.take i))).size = wtV (K.take i) := by rw [size_bsOf, slashV_wt]
    have z5 : (bsOf K[i]).size = K[i].length := size_bsOf _
    have e3 : bsOf (slashV (K.take i)) ++ (⟨#[47]⟩ : ByteArray) ++ bsOf K[i] = bsOf (slashV (K.take (i + 1))) := ba_ext (by
      rw [append_list, append_list, bsOf_data, bsOf_data, bsOf_data, List.take_add_one, List.getElem?_eq_getElem hlt, slashV_append, List.append_assoc]
      simp [slashV])
    refine evSucc ?_
    simp only [lockkeeperref4_Clean.l1, hm, e2]
    rw [rdOf_get _ _ hlt', List.getElem_map]
    refine evPos (by omega) (evPos (by omega) (evPos (by omega) (evPos (by omega) ?_)))
    rw [e3]
    exact ih (i + 1) (by omega)
def nextK (K : List Bs) (cur : Bs) (last : Bool) : List Bs := if dotV cur = 0 then K ++ [cur] else if last = true then stepK K cur ++ [[]] else stepK K cur
theorem rclean_j3 (P : ByteArray) (from' i : Nat) (cur : Bs) (K : List Bs) (R : ByteArray) (hP : P.size ≤ 1000000) (hf : from' ≤ i) (hi : i ≤ P.size) (hc : P.extract from' i = bsOf cur) (hK : wtV K ≤ 1000000)
    (hn : Ev (fun k => lockkeeperref4_Clean.l0 k P ((nextK K cur (decide (i = P.size))).map bsOf) ((i + 1 : Nat) : Int) ((i + 1 : Nat) : Int)) R) :
    Ev (fun k => lockkeeperref4_Clean.j3 k P (K.map bsOf) (from' : Int) (i : Int) false) R := by
  have hl := wtV_length K
  have hm : (K.map bsOf).length = K.length := by simp
  have e2 : wrap64 ((i : Int) + 1) = ((i + 1 : Nat) : Int) := by unfold wrap64; omega
  have eK : wrap64 ((K.length : Int) - 1) = (K.length : Int) - 1 := by unfold wrap64; omega
  have zc : cur.length ≤ 1000000 := by
    have := congrArg ByteArray.size hc
    rw [ByteArray.size_extract, size_bsOf] at this
    omega
  have hd := rdots_ev (bsOf cur) (by rw [size_bsOf]; omega)
  rw [bsOf_data] at hd
  refine evSucc ?_
  simp only [lockkeeperref4_Clean.j3, Bool.false_eq_true, if_false, Int.toNat_natCast, hc, hm, e2]
  refine evPos (by omega) (evPos (by omega) (evPos (by omega) (Ev.bind hd ?_)))
  unfold nextK at hn
  by_cases h0 : dotV cur = 0
  · rw [if_pos h0, List.map_append] at hn
    exact evPos h0 (evPos (by omega) hn)
  · rw [if_neg h0] at hn
    refine evNeg h0 ?_
    have jn : ∀ K' : List Bs, K'.length ≤ 1000000 → Ev (fun k => lockkeeperref4_Clean.l0 k P ((if decide (i = P.size) = true then K' ++ [[]] else K').map bsOf) ((i + 1 : Nat) : Int) ((i + 1 : Nat) : Int)) R → Ev (fun k => if (i : Int) = (P.size : Int) then (if (K'.map bsOf).length < 8796093022208 then (lockkeeperref4_Clean.l0 k P (K'.map bsOf ++ [⟨#[]⟩]) ((i + 1 : Nat) : Int) ((i + 1 : Nat) : Int)) else none) else lockkeeperref4_Clean.l0 k P (K'.map bsOf) ((i + 1 : Nat) : Int) ((i + 1 : Nat) : Int)) R := by
      intro K' hK' h
      by_cases he : i = P.size
      · rw [decide_eq_true he, if_pos rfl, List.map_append] at h
        exact evPos (by omega) (evPos (by rw [List.length_map]; omega) h)
      · rw [decide_eq_false he, if_neg (by decide)] at h
        exact evNeg (by omega) h
    by_cases h2 : dotV cur = 2
    · refine evPos h2 (evSucc ?_)
      have es : stepK K cur = K.dropLast := by unfold stepK; rw [if_neg h0, if_pos h2]
      rw [es] at hn
      simp only [lockkeeperref4_Clean.j4, hm, eK, e2]
      by_cases hz : (K.length : Int) > 0
      · rw [decide_eq_true hz]
        have et : (K.map bsOf).take ((K.length : Int) - 1).toNat = K.dropLast.map bsOf := by
          rw [List.dropLast_eq_take, List.map_take]
          congr 1
          omega
        refine evPos rfl (evPos (by omega) (evPos (by omega) (evBind (congrArg some et) ?_)))
        exact jn K.dropLast (by rw [List.length_dropLast]; omega) hn
      · rw [decide_eq_false hz]
        have en : K = [] := List.length_eq_zero_iff.1 (by omega)
        have ed : K.dropLast = K := by rw [en]; rfl
        rw [ed] at hn
        exact evNeg (by decide) (by have := jn K (by omega) hn; simpa only [hm] using this)
    · refine evNeg h2 (evSucc ?_)
      have es : stepK K cur = K := by unfold stepK; rw [if_neg h0, if_neg h2]
      rw [es] at hn
      simp only [lockkeeperref4_Clean.j4, Bool.false_eq_true, if_false, e2]
      exact jn K (by omega) hn
theorem endV_cons (x : Bs) (L K : List Bs) (h : L ≠ []) : endV (x :: L) K = endV L K := by
  cases L with
  | nil => exact absurd rfl h
  | cons y L => rfl
theorem rclean_l0 (P : ByteArray) (hP : P.size ≤ 500000) : ∀ (r d cur : Bs) (K : List Bs), P.data.toList = d ++ (cur ++ r) → (47 : UInt8) ∉ cur → wtV K ≤ d.length + 1 →
    Ev (fun k => lockkeeperref4_Clean.l0 k P (K.map bsOf) (d.length : Int) ((d.length + cur.length : Nat) : Int)) (bsOf (finV (endV (splitC 47 (cur ++ r)) ((splitC 47 (cur ++ r)).foldl stepK K)))) := by
  intro r
  induction r with
  | nil =>
    intro d cur K hd hc hK
    have hz : P.size = d.length + cur.length := by rw [size_len, hd]; simp
    have hx : P.extract d.length (d.length + cur.length) = bsOf cur := ba_ext (by rw [extract_list, bsOf_data, hd, List.append_nil, ← List.length_append, List.take_length]; simp)
    have hn1 : ∀ K' : List Bs, wtV K' ≤ 1000000 → Ev (fun k => lockkeeperref4_Clean.l0 k P (K'.map bsOf) ((d.length + cur.length + 1 : Nat) : Int) ((d.length + cur.length + 1 : Nat) : Int)) (bsOf (finV K')) := by
      intro K' hK'
      refine evSucc ?_
      simp only [lockkeeperref4_Clean.l0]
      exact evNeg (by omega) (rclean_l1 K' hK' _ 0 (Nat.zero_add _))
    have hw := wt_step K cur
    have hfin : endV (splitC 47 (cur ++ [])) ((splitC 47 (cur ++ [])).foldl stepK K) = nextK K cur (decide (d.length + cur.length = P.size)) := by
      rw [List.append_nil, splitC_not _ _ hc, decide_eq_true hz.symm]
      unfold endV nextK
      show (if dotV cur > 0 then stepK K cur ++ [[]] else stepK K cur) = _
      by_cases h0 : dotV cur = 0
      · rw [if_neg (by omega), if_pos h0]
        unfold stepK
        rw [if_pos h0]
      · rw [if_pos (by rcases dotV_cases cur with h | h | h <;> omega), if_neg h0, if_pos rfl]
    have hwn : wtV (nextK K cur (decide (d.length + cur.length = P.size))) ≤ 1000000 := by
      unfold nextK
      split
      · rw [wtV_append, wtV_one]; omega
      · split
        · rw [wtV_append, wtV_one, List.length_nil]; omega
        · omega
    rw [hfin]
    refine evSucc ?_
    simp only [lockkeeperref4_Clean.l0]
    exact evPos (by omega) (evNeg (by omega) (rclean_j3 P d.length (d.length + cur.length) cur K _ (by omega) (by omega) (by omega) hx (by omega) (hn1 _ hwn)))
  | cons b r ih =>
    intro d cur K hd hc hK
    have hz : P.size = d.length + cur.length + (r.length + 1) := by rw [size_len, hd]; simp; omega
    have hb := bt_mid P (d ++ cur) b r (by rw [hd]; simp)
    rw [List.length_append] at hb
    refine evSucc ?_
    simp only [lockkeeperref4_Clean.l0, hb]
    refine evPos (by omega) (evPos (by omega) (evPos (by omega) ?_))
    by_cases h : b = 47
    · subst h
      have hx : P.extract d.length (d.length + cur.length) = bsOf cur := ba_ext (by rw [extract_list, bsOf_data, hd, ← List.append_assoc, ← List.length_append, List.take_left]; simp)
      have hw := wt_step K cur
      have hk : nextK K cur (decide (d.length + cur.length = P.size)) = stepK K cur := by
        rw [decide_eq_false (by omega)]
        unfold nextK stepK
        split
        · rfl
        · rw [if_neg (by decide)]
      have IH := ih (d ++ (cur ++ ([47] : List UInt8))) [] (stepK K cur) (by rw [hd]; simp) (by simp) (by simp; omega)
      have el : (d ++ (cur ++ ([47] : List UInt8))).length = d.length + cur.length + 1 := by simp; omega
      rw [el, List.length_nil, Nat.add_zero, List.nil_append] at IH
      rw [splitC_at 47 cur r hc, endV_cons _ _ _ (splitC_ne _ _), List.foldl_cons]
      rw [show (((47 : UInt8).toNat : Int) != 47) = false from rfl]
      refine rclean_j3 P d.length (d.length + cur.length) cur K _ (by omega) (by omega) (by omega) hx (by omega) ?_
      rw [hk]
      exact IH
    · rw [show ((b.toNat : Int) != 47) = true by simpa using fun e => h (UInt8.toNat_inj.1 (by simpa using (by omega : b.toNat = 47)))]
      have e2 : wrap64 (((d.length + cur.length : Nat) : Int) + 1) = ((d.length + (cur ++ [b]).length : Nat) : Int) := by simp; unfold wrap64; omega
      have IH := ih d (cur ++ [b]) K (by rw [hd]; simp) (by intro hx; rcases List.mem_append.1 hx with hx | hx; exact hc hx; exact h (List.mem_singleton.1 hx).symm) hK
      rw [List.append_assoc] at IH
      refine evSucc ?_
      simp only [lockkeeperref4_Clean.j3, if_true, e2]
      exact IH
theorem rclean_ev (s : ByteArray) (h : s.size ≤ 100000) : Ev (fun k => lockkeeperref4_Clean.f k s) (bsOf (cleanV s.data.toList)) := by
  have key : ∀ P : ByteArray, P.data.toList = 47 :: trimV s.data.toList → Ev (fun k => lockkeeperref4_Clean.j1 k P) (bsOf (cleanV s.data.toList)) := by
    intro P hP
    have hz := size_len P
    have ht := trimV_le s.data.toList
    have hs := size_len s
    rw [hP, List.length_cons] at hz
    have := rclean_l0 P (by omega) (trimV s.data.toList) ([47] : List UInt8) [] [] (by rw [hP]; rfl) (by simp) (by simp [wtV])
    rw [List.nil_append] at this
    refine evSucc ?_
    simp only [lockkeeperref4_Clean.j1]
    refine evEq this ?_
    have hk : endV (splitC 47 (trimV s.data.toList)) ((splitC 47 (trimV s.data.toList)).foldl stepK []) = keptV s.data.toList := rfl
    rw [hk]
    unfold finV
    rw [slashV_join _ (kept_ne _), if_neg (List.cons_ne_nil _ _)]
    rfl
  have kt : trimV s.data.toList = s.data.toList → Ev (fun k => lockkeeperref4_Clean.j0 k s true) (bsOf (cleanV s.data.toList)) := by
    intro e
    refine evSucc ?_
    simp only [lockkeeperref4_Clean.j0, if_true]
    exact evPos (by omega) (key _ (by rw [append_list, e]; rfl))
  have hs := size_len s
  unfold lockkeeperref4_Clean.f
  rw [tl]
  cases hd : s.data.toList with
  | nil =>
    rw [hd] at kt
    exact evPos rfl (by simpa using kt rfl)
  | cons b r =>
    rw [hd, List.length_cons] at hs
    have hb := bt_mid s [] b r hd
    rw [show (([] : Bs).length : Int) = 0 from rfl] at hb
    rw [hb]
    refine evNeg (List.cons_ne_nil _ _) (evPos (by omega) ?_)
    by_cases h47 : b = 47
    · subst h47
      rw [show (((47 : UInt8).toNat : Int) != 47) = false from rfl]
      refine evSucc ?_
      simp only [lockkeeperref4_Clean.j0, Bool.false_eq_true, if_false]
      rw [hd] at key
      exact key s (by rw [hd]; simp [trimV])
    · rw [show ((b.toNat : Int) != 47) = true by simpa using fun e => h47 (UInt8.toNat_inj.1 (by simpa using (by omega : b.toNat = 47)))]
      rw [hd] at kt
      exact kt (by simp [trimV, h47])
theorem byteOf_ev (c : UInt8) (m : ByteArray) (hm : m.size ≤ 1000) : Ev (fun k => lockkeeperref4_byteOf.f k (c.toNat : Int) m) (allC m.data.toList c) := by
  unfold lockkeeperref4_byteOf.f allC
  by_cases h1 : (c.toNat : Int) ≥ 33
  · rw [show decide (33 ≤ c.toNat) = true from decide_eq_true (by omega)]
    by_cases h2 : (c.toNat : Int) ≤ 126
    · rw [show decide (c.toNat ≤ 126) = true from decide_eq_true (by omega)]
      exact evPos h1 (evPos h2 (Ev.bind (in_ev m c (by omega)) (evEq (Ev.now _) (by simp))))
    · rw [show decide (c.toNat ≤ 126) = false from decide_eq_false (by omega)]
      exact evPos h1 (evNeg h2 (evEq (Ev.now _) (by simp)))
  · rw [show decide (33 ≤ c.toNat) = false from decide_eq_false (by omega)]
    exact evNeg h1 (evEq (Ev.now _) (by simp))
theorem allC_96 (c : UInt8) : allC notP c = (allC (([34, 35, 60, 62, 63, 92, 94] : List UInt8) ++ [123, 124, 125]) c && ((c.toNat : Int) != 96)) := by
  have e : ((c.toNat : Int) != 96) = !(c == 96) := by
    by_cases h : c = 96
    · subst h; rfl
    · rw [show (c == 96) = false by simpa using h]
      simpa using fun e => h (UInt8.toNat_inj.1 (by simpa using (by omega : c.toNat = 96)))
  have e2 : notP = (([34, 35, 60, 62, 63, 92, 94] : List UInt8) ++ [123, 124, 125]) ++ [96] := rfl
  rw [e, e2]
  unfold allC
  generalize (([34, 35, 60, 62, 63, 92, 94] : List UInt8) ++ [123, 124, 125] : Bs) = m
  rw [show (m ++ [96] : Bs).contains c = (m.contains c || (c == 96)) by simp [List.contains_eq_mem, List.mem_append, Bool.decide_or]; rfl]
  cases m.contains c <;> cases (c == 96) <;> simp
theorem pathByte_ev (c : UInt8) : Ev (fun k => lockkeeperref4_pathByte.f k (c.toNat : Int)) (allC notP c) := by
  unfold lockkeeperref4_pathByte.f
  refine Ev.bind (byteOf_ev c _ (by decide)) ?_
  rw [allC_96]
  show Ev (fun k => if allC (([34, 35, 60, 62, 63, 92, 94] : List UInt8) ++ [123, 124, 125]) c = true then _ else _) _
  cases allC (([34, 35, 60, 62, 63, 92, 94] : List UInt8) ++ [123, 124, 125]) c with
  | true => exact evPos rfl (evEq (Ev.now _) (by simp))
  | false => exact evNeg (by decide) (Ev.now _)
theorem queryByte_ev (c : UInt8) : Ev (fun k => lockkeeperref4_queryByte.f k (c.toNat : Int)) (allC notQ c) := by
  unfold lockkeeperref4_queryByte.f
  exact Ev.bind (byteOf_ev c _ (by decide)) (Ev.now _)
theorem allV_cons (m : Bs) (c : UInt8) (r : Bs) : allV m (c :: r) = (allC m c && allV m r) := rfl
theorem fits_l1 (a b c d : ByteArray) (p : Int) (hd : d.size ≤ 1000000) : ∀ (r x : Bs), d.data.toList = x ++ r → Ev (fun k => lockkeeperref4_fits.l1 k (x.length : Int) a b p c d) (allV notQ r) := by
  intro r
  induction r with
  | nil =>
    intro x hx
    have hz : d.size = x.length := by rw [size_len, hx]; simp
    refine evSucc ?_
    simp only [lockkeeperref4_fits.l1]
    exact evNeg (by omega) (Ev.now _)
  | cons y r ih =>
    intro x hx
    have hz : d.size = x.length + (r.length + 1) := by rw [size_len, hx]; simp
    have hb := bt_mid d x y r hx
    have e2 : wrap64 ((x.length : Int) + 1) = ((x ++ [y]).length : Int) := by simp; unfold wrap64; omega
    have IH := ih (x ++ [y]) (by rw [hx]; simp)
    refine evSucc ?_
    simp only [lockkeeperref4_fits.l1, hb, e2]
    rw [allV_cons]
    refine evPos (by omega) (evPos (by omega) (Ev.bind (queryByte_ev y) ?_))
    cases allC notQ y with
    | true => exact evPos rfl (evEq IH (by simp))
    | false => exact evNeg (by decide) (evEq (Ev.now _) (by simp))
theorem fits_l0 (a b c d : ByteArray) (p : Int) (hc : c.size ≤ 1000000) (v : Bool) (hv : Ev (fun k => lockkeeperref4_fits.l1 k 1 a b p c d) v) : ∀ (r x : Bs), c.data.toList = x ++ r → Ev (fun k => lockkeeperref4_fits.l0 k (x.length : Int) a b p c d) (allV notP r && v) := by
  intro r
  induction r with
  | nil =>
    intro x hx
    have hz : c.size = x.length := by rw [size_len, hx]; simp
    refine evSucc ?_
    simp only [lockkeeperref4_fits.l0]
    exact evNeg (by omega) (evEq hv (by simp [allV]))
  | cons y r ih =>
    intro x hx
    have hz : c.size = x.length + (r.length + 1) := by rw [size_len, hx]; simp
    have hb := bt_mid c x y r hx
    have e2 : wrap64 ((x.length : Int) + 1) = ((x ++ [y]).length : Int) := by simp; unfold wrap64; omega
    have IH := ih (x ++ [y]) (by rw [hx]; simp)
    refine evSucc ?_
    simp only [lockkeeperref4_fits.l0, hb, e2]
    rw [allV_cons]
    refine evPos (by omega) (evPos (by omega) (Ev.bind (pathByte_ev y) ?_))
    cases allC notP y with
    | true => exact evPos rfl (evEq IH (by simp))
    | false => exact evNeg (by decide) (evEq (Ev.now _) (by simp))
theorem fits_ev (a b c d : ByteArray) (p : Int) (hc : c.size ≤ 20000) (hd : d.size ≤ 20000) : Ev (fun k => lockkeeperref4_fits.f k a b p c d) (pathB c && queryB d) := by
  have jt : Ev (fun k => lockkeeperref4_fits.j0 k true a b p c d) false := by
    refine evSucc ?_
    simp only [lockkeeperref4_fits.j0, if_true]
    exact Ev.now _
  have jf : ∀ v, Ev (fun k => lockkeeperref4_fits.l1 k 1 a b p c d) v → Ev (fun k => lockkeeperref4_fits.j0 k false a b p c d) (allV notP c.data.toList && v) := by
    intro v hv
    refine evSucc ?_
    simp only [lockkeeperref4_fits.j0, Bool.false_eq_true, if_false]
    exact fits_l0 a b c d p (by omega) v hv c.data.toList [] rfl
  have hzc := size_len c
  have hzd := size_len d
  unfold lockkeeperref4_fits.f pathB queryB
  simp only [tl]
  cases ec : c.data.toList with
  | nil => exact evPos rfl jt
  | cons x r =>
    rw [ec, List.length_cons] at hzc
    have hb := bt_mid c [] x r ec
    rw [show (([] : Bs).length : Int) = 0 from rfl] at hb
    rw [hb]
    refine evNeg (List.cons_ne_nil _ _) (evPos (by omega) ?_)
    by_cases h47 : x = 47
    · subst h47
      rw [if_pos (show ((47 :: r : Bs).head? == some 47) = true by simp)]
      refine evPos rfl (Ev.bind (rclean_ev c (by omega)) ?_)
      rw [bsOf_data, ec]
      by_cases hcl : cleanV (47 :: r) = 47 :: r
      · refine evPos hcl ?_
        rw [show (cleanV (47 :: r) == 47 :: r) = true by simpa using hcl]
        have ev : ∀ v, (allV notP c.data.toList && v) = ((if allV notP (47 :: r) = true then true else false) && v) := by
          intro v
          rw [ec]
          cases allV notP (47 :: r) <;> simp
        cases ed : d.data.toList with
        | nil =>
          rw [ed, List.length_nil] at hzd
          refine evPos rfl (evEq (jf true ?_) (by rw [ev, if_pos rfl]))
          refine evSucc ?_
          simp only [lockkeeperref4_fits.l1]
          exact evNeg (by omega) (Ev.now _)
        | cons y q =>
          rw [ed, List.length_cons] at hzd
          have hbd := bt_mid d [] y q ed
          rw [show (([] : Bs).length : Int) = 0 from rfl] at hbd
          rw [hbd]
          refine evNeg (List.cons_ne_nil _ _) (evPos (by omega) ?_)
          rw [if_neg (List.cons_ne_nil _ _)]
          by_cases h63 : y = 63
          · subst h63
            rw [show (((63 : UInt8).toNat : Int) != 63) = false from rfl, if_pos (show ((63 :: q : Bs).head? == some 63) = true by simp)]
            refine evEq (jf (allV notQ q) (fits_l1 a b c d p (by omega) q ([63] : List UInt8) (by rw [ed]; rfl))) ?_
            rw [ev]
            show _ = (_ && (allC notQ 63 && allV notQ q))
            rw [show allC notQ 63 = true by decide, Bool.true_and]
          · rw [show ((y.toNat : Int) != 63) = true by simpa using fun e => h63 (UInt8.toNat_inj.1 (by simpa using (by omega : y.toNat = 63))), if_neg (show ¬ ((y :: q : Bs).head? == some 63) = true by simpa using h63)]
            exact evEq jt (by simp)
      · refine evNeg hcl (evEq jt ?_)
        rw [show (cleanV (47 :: r) == 47 :: r) = false by simpa using hcl]
        simp
    · rw [if_neg (show ¬ ((x :: r : Bs).head? == some 47) = true by simpa using h47)]
      exact evNeg (fun e => h47 (UInt8.toNat_inj.1 (by simpa using (by omega : x.toNat = 47)))) jt
theorem rchk_ev (a b c d : ByteArray) (p : Int) (ha : a.size ≤ 100000) (hb : b.size ≤ 100000) (hc : c.size ≤ 20000) (hd : d.size ≤ 20000) : Ev (fun k => lockkeeperref4_Check.f k a b p c d) (tchkS a b p c d) := by
  have hz := showS_size a b p
  have z2 : (tshowS a b p c d).size = (showS a b p).size + c.size + d.size := by unfold tshowS; rw [ByteArray.size_append, ByteArray.size_append]
  unfold lockkeeperref4_Check.f tchkS
  refine Ev.bind (chk3_ev a b p hb) ?_
  cases chkS a b p with
  | false => exact evNeg (by decide) (Ev.now _)
  | true =>
    refine evPos rfl ?_
    by_cases h1 : (c.size : Int) ≤ 512
    · refine evPos h1 ?_
      by_cases h2 : (d.size : Int) ≤ 512
      · refine evPos h2 (Ev.bind (fits_ev a b c d p hc hd) ?_)
        rw [Bool.true_and]
        cases (pathB c && queryB d) with
        | false => exact evNeg (by decide) (Ev.now _)
        | true =>
          refine evPos rfl (Ev.bind (show3_ev a b p ha hb) ?_)
          have e : wrap64 (wrap64 (((showS a b p).size : Int) + (c.size : Int)) + (d.size : Int)) = ((tshowS a b p c d).size : Int) := by rw [z2]; unfold wrap64; omega
          rw [e]
          exact Ev.now _
      · exact evNeg h2 (evEq (Ev.now _) (by rw [decide_eq_false (by omega)]; simp))
    · exact evNeg h1 (evEq (Ev.now _) (by rw [decide_eq_false (by omega)]; simp))
theorem rShow_ev (a b c d : ByteArray) (p : Int) (ha : a.size ≤ 100000) (hb : b.size ≤ 100000) (hc : c.size ≤ 20000) (hd : d.size ≤ 20000) : Ev (fun k => lockkeeperref4_Show.f k a b p c d) (tShowS a b p c d) := by
  have hz := showS_size a b p
  have z1 : (showS a b p ++ c).size = (showS a b p).size + c.size := ByteArray.size_append
  unfold lockkeeperref4_Show.f tShowS
  exact Ev.bind (rchk_ev a b c d p ha hb hc hd) (evIte (fun _ => Ev.bind (show3_ev a b p ha hb) (evPos (by omega) (evPos (by omega) (Ev.now _)))) fun _ => Ev.now _)
def firstN (m : Bs) : Bs → Nat
  | [] => 0
  | c :: r => if m.contains c = true then 0 else firstN m r + 1
theorem fcase (m : Bs) : ∀ l : Bs, ∃ p r, l = p ++ r ∧ firstN m l = p.length ∧ (∀ x ∈ p, m.contains x = false) ∧ (r = [] ∨ ∃ c r', r = c :: r' ∧ m.contains c = true)
  | [] => ⟨[], [], rfl, rfl, by simp, Or.inl rfl⟩
  | c :: l => by
    by_cases h : m.contains c = true
    · exact ⟨[], c :: l, rfl, by rw [firstN, if_pos h]; rfl, by simp, Or.inr ⟨c, l, rfl, h⟩⟩
    · obtain ⟨p, r, e, hn, hp, hr⟩ := fcase m l
      refine ⟨c :: p, r, by rw [e]; rfl, by rw [firstN, if_neg h, hn]; rfl, ?_, hr⟩
      intro x hx
      rcases List.mem_cons.1 hx with rfl | hx
      · simpa using h
      · exact hp x hx
theorem first_l0 (s m : ByteArray) (hs : s.size ≤ 1000000) (hm : m.size ≤ 1000) : ∀ (r x : Bs), s.data.toList = x ++ r → Ev (fun k => lockkeeperref4_first.l0 k s m (x.length : Int)) (((x.length + firstN m.data.toList r : Nat) : Int)) := by
  intro r
  induction r with
  | nil =>
    intro x hx
    have hz : s.size = x.length := by rw [size_len, hx]; simp
    refine evSucc ?_
    simp only [lockkeeperref4_first.l0]
    exact evNeg (by omega) (evEq (Ev.now _) (by simp [firstN]))
  | cons y r ih =>
    intro x hx
    have hz : s.size = x.length + (r.length + 1) := by rw [size_len, hx]; simp
    have hb := bt_mid s x y r hx
    have e2 : wrap64 ((x.length : Int) + 1) = ((x ++ [y]).length : Int) := by simp; unfold wrap64; omega
    have IH := ih (x ++ [y]) (by rw [hx]; simp)
    refine evSucc ?_
    simp only [lockkeeperref4_first.l0, hb, e2]
    rw [firstN]
    refine evPos (by omega) (evPos (by omega) (Ev.bind (in_ev m y (by omega)) ?_))
    by_cases h : m.data.toList.contains y = true
    · rw [if_pos h]; exact evPos h (Ev.now _)
    · rw [if_neg h]; exact evNeg h (evEq IH (by simp; omega))
theorem first_ev (s m : ByteArray) (x r : Bs) (hs : s.size ≤ 1000000) (hm : m.size ≤ 1000) (h : s.data.toList = x ++ r) : Ev (fun k => lockkeeperref4_first.f k s (x.length : Int) m) (((x.length + firstN m.data.toList r : Nat) : Int)) := first_l0 s m hs hm r x h
theorem cut_first (s : ByteArray) (c : UInt8) : (cutS s ⟨#[c]⟩).1 = s.extract 0 (firstN [c] s.data.toList) := by
  obtain ⟨p, r, e, hn, hp, hr⟩ := fcase [c] s.data.toList
  have hx : s.extract 0 (firstN [c] s.data.toList) = bsOf p := by
    refine ba_ext ?_
    rw [extract_list, hn, e, bsOf_data]
    simp
  have hc : c ∉ p := fun h => by have := hp c h; simp at this
  rw [hx]
  rcases hr with rfl | ⟨d, r', rfl, hd⟩
  · rw [cutS_not s c (by rw [e]; simpa using hc)]
    refine ba_ext ?_
    rw [e, bsOf_data]
    simp
  · obtain rfl : d = c := by simpa using hd
    rw [cutS_at s p r' d e hc]
theorem ends_first (rest : ByteArray) : endsAt rest = firstN ([47, 63] : List UInt8) rest.data.toList := by
  obtain ⟨p, r, e, hn, hp, hr⟩ := fcase ([47, 63] : List UInt8) rest.data.toList
  rw [hn]
  unfold endsAt
  rw [size_len, e]
  rcases hr with rfl | ⟨d, r', rfl, hd⟩
  · rw [List.append_nil, indexAny_not _ _ hp, if_pos (by decide)]
  · rw [indexAny_at _ _ _ _ hp hd, if_neg (by omega)]
    exact Int.toNat_natCast _
theorem index_cases (l sub : Bs) : Lib.index l sub = -1 ∨ ∃ A R, l = A ++ (sub ++ R) ∧ Lib.index l sub = (A.length : Int) := by
  rcases Lib.index_spec l sub with ⟨h, _⟩ | ⟨i, h, hi, ho, _⟩
  · exact Or.inl h
  · refine Or.inr ⟨l.take i, l.drop (i + sub.length), ?_, by rw [h, List.length_take]; omega⟩
    have hp : sub <+: l.drop i := by simpa [Lib.occAt] using ho
    obtain ⟨t, ht⟩ := hp
    have : l.drop (i + sub.length) = t := by rw [← List.drop_drop, ← ht]; simp
    rw [this, ht, List.take_append_drop]
theorem sum3 (x y z : Nat) (hx : x ≤ 1000) (hy : y ≤ 601) (hz : z ≤ 600) : wrap64 (wrap64 ((x : Int) + (y : Int)) + (z : Int)) = ((x + y + z : Nat) : Int) := by unfold wrap64; omega
theorem rp_end (a b c q : ByteArray) (p i : Int) (ha : a.size ≤ 100000) (hb : b.size ≤ 100000) (hc : c.size ≤ 600) (hq : q.size ≤ 600) (hi : ¬ i < (q.size : Int)) : Ev (fun k => lockkeeperref4_Parse.l1 k i a b p a b p c q) (fitU a b p (bsOf (cleanV c.data.toList)) q) := by
  have hcl := clean_length c.data.toList
  have hcz := size_len c
  have hz2 : (bsOf (cleanV c.data.toList)).size ≤ 601 := by rw [size_bsOf]; omega
  have hsh := showS_size a b p
  refine evSucc ?_
  simp only [lockkeeperref4_Parse.l1]
  refine evNeg hi (Ev.bind (rclean_ev c (by omega)) (Ev.bind (show3_ev a b p ha hb) ?_))
  unfold fitU
  have e1 : (tshowS a b p (bsOf (cleanV c.data.toList)) q).size = (showS a b p).size + (bsOf (cleanV c.data.toList)).size + q.size := by unfold tshowS; rw [ByteArray.size_append, ByteArray.size_append]
  generalize bsOf (cleanV c.data.toList) = d at hz2 e1 ⊢
  rw [sum3 _ _ _ hsh hz2 hq, ← e1]
  exact evIte (fun _ => Ev.now _) fun _ => Ev.now _
theorem rp_l1 (a b c q : ByteArray) (p : Int) (ha : a.size ≤ 100000) (hb : b.size ≤ 100000) (hc : c.size ≤ 600) (hq : q.size ≤ 600) : ∀ (r x : Bs), (x ≠ [] → q.data.toList = x ++ r) → (x = [] → False) → Ev (fun k => lockkeeperref4_Parse.l1 k (x.length : Int) a b p a b p c q) (if allV notQ r = true then fitU a b p (bsOf (cleanV c.data.toList)) q else noU 3) := by
  intro r
  induction r with
  | nil =>
    intro x hx hn
    have hx := hx hn
    have hz : q.size = x.length := by rw [size_len, hx]; simp
    rw [show allV notQ [] = true from rfl, if_pos rfl]
    exact rp_end a b c q p _ ha hb hc hq (by omega)
  | cons y r ih =>
    intro x hx hn
    have hx := hx hn
    have hz : q.size = x.length + (r.length + 1) := by rw [size_len, hx]; simp
    have hbt := bt_mid q x y r hx
    have e2 : wrap64 ((x.length : Int) + 1) = ((x ++ [y]).length : Int) := by simp; unfold wrap64; omega
    have IH := ih (x ++ [y]) (fun _ => by rw [hx]; simp) (by simp)
    refine evSucc ?_
    simp only [lockkeeperref4_Parse.l1, hbt, e2]
    rw [allV_cons]
    refine evPos (by omega) (evPos (by omega) (Ev.bind (queryByte_ev y) ?_))
    cases allC notQ y with
    | true => rw [Bool.true_and]; exact evPos rfl IH
    | false => rw [Bool.false_and, if_neg (by decide)]; exact evNeg (by decide) (Ev.now _)
theorem rp_l0 (a b c q : ByteArray) (p : Int) (R : UT) (hc : c.size ≤ 600) (hR : Ev (fun k => lockkeeperref4_Parse.l1 k 1 a b p a b p c q) R) : ∀ (r x : Bs), c.data.toList = x ++ r → Ev (fun k => lockkeeperref4_Parse.l0 k (x.length : Int) a b p a b p c q) (if allV notP r = true then R else noU 3) := by
  intro r
  induction r with
  | nil =>
    intro x hx
    have hz : c.size = x.length := by rw [size_len, hx]; simp
    rw [show allV notP [] = true from rfl, if_pos rfl]
    refine evSucc ?_
    simp only [lockkeeperref4_Parse.l0]
    exact evNeg (by omega) hR
  | cons y r ih =>
    intro x hx
    have hz : c.size = x.length + (r.length + 1) := by rw [size_len, hx]; simp
    have hbt := bt_mid c x y r hx
    have e2 : wrap64 ((x.length : Int) + 1) = ((x ++ [y]).length : Int) := by simp; unfold wrap64; omega
    have IH := ih (x ++ [y]) (by rw [hx]; simp)
    refine evSucc ?_
    simp only [lockkeeperref4_Parse.l0, hbt, e2]
    rw [allV_cons]
    refine evPos (by omega) (evPos (by omega) (Ev.bind (pathByte_ev y) ?_))
    cases allC notP y with
    | true => rw [Bool.true_and]; exact evPos rfl IH
    | false => rw [Bool.false_and, if_neg (by decide)]; exact evNeg (by decide) (Ev.now _)
theorem rp_loop (a b : ByteArray) (p e : Int) (D F : Bs) (ha : a.size ≤ 100000) (hb : b.size ≤ 100000) (hD : D.length ≤ 600) (hF : F.length ≤ 600) (hp : ∀ x ∈ D, (([63] : List UInt8) : Bs).contains x = false) (hr : F = [] ∨ ∃ c F', F = c :: F' ∧ (([63] : List UInt8) : Bs).contains c = true) :
    Ev (fun k => lockkeeperref4_Parse.l0 k 0 a b p a b p (bsOf D) (bsOf F)) (urlS (a, b, p, e) (cutS (bsOf (D ++ F)) (⟨#[63]⟩ : ByteArray))) := by
  have zD : (bsOf D).size ≤ 600 := by rw [size_bsOf]; exact hD
  have zF : (bsOf F).size ≤ 600 := by rw [size_bsOf]; exact hF
  have hn : (63 : UInt8) ∉ D := fun h => by have := hp _ h; simp at this
  have h0 := fun R hR => rp_l0 a b (bsOf D) (bsOf F) p R zD hR D [] rfl
  rcases hr with rfl | ⟨c, F', rfl, hc⟩
  · have hcut : cutS (bsOf (D ++ [])) (⟨#[63]⟩ : ByteArray) = (bsOf D, ⟨#[]⟩, false) := by rw [List.append_nil]; exact cutS_not _ _ (by rw [bsOf_data]; exact hn)
    rw [hcut]
    have h1 := rp_end a b (bsOf D) (bsOf []) p 1 ha hb zD zF (by rw [size_bsOf]; decide)
    refine evEq (h0 _ h1) ?_
    unfold urlS
    show _ = if allV notP (bsOf D).data.toList = true ∧ allV notQ (⟨#[]⟩ : ByteArray).data.toList = true then fitU a b p (bsOf (cleanV (bsOf D).data.toList)) (bsOf []) else noU 3
    rw [bsOf_data]
    by_cases h : allV notP D = true
    · rw [if_pos h, if_pos ⟨h, rfl⟩]
    · rw [if_neg h, if_neg (fun x => h x.1)]
  · obtain rfl : c = 63 := by simpa using hc
    have hcut : cutS (bsOf (D ++ 63 :: F')) (⟨#[63]⟩ : ByteArray) = (bsOf D, bsOf F', true) := cutS_at _ D F' 63 (bsOf_data _) hn
    rw [hcut]
    have h1 := rp_l1 a b (bsOf D) (bsOf (63 :: F')) p ha hb zD zF F' [63] (fun _ => rfl) (by simp)
    refine evEq (h0 _ h1) ?_
    have hask : askQ (bsOf D, bsOf F', true) = bsOf (63 :: F') := ba_ext (by unfold askQ; rw [if_pos rfl, append_list]; rfl)
    unfold urlS
    show _ = if allV notP (bsOf D).data.toList = true ∧ allV notQ (bsOf F').data.toList = true then fitU a b p (bsOf (cleanV (bsOf D).data.toList)) (askQ (bsOf D, bsOf F', true)) else noU 3
    rw [hask, bsOf_data, bsOf_data]
    by_cases h : allV notP D = true
    · rw [if_pos h]
      by_cases h2 : allV notQ F' = true
      · rw [if_pos h2, if_pos ⟨h, h2⟩]
      · rw [if_neg h2, if_neg (fun x => h2 x.2)]
    · rw [if_neg h, if_neg (fun x => h x.1)]
theorem rp_ev (s : ByteArray) (hs : s.size ≤ 100000) : Ev (fun k => lockkeeperref4_Parse.f k s) (tparseS s) := by
  unfold lockkeeperref4_Parse.f tparseS
  refine evIte (fun _ => Ev.now _) fun h => ?_
  have hf0 : firstN ([35] : List UInt8) s.data.toList ≤ s.size := by
    obtain ⟨p, r, e, hn, _⟩ := fcase ([35] : List UInt8) s.data.toList
    rw [hn, size_len, e]
    simp
  have h1 := first_ev s (⟨#[35]⟩ : ByteArray) [] s.data.toList (by omega) (by decide) rfl
  rw [List.length_nil, Nat.zero_add] at h1
  refine Ev.bind h1 (evPos (by omega) (evPos (by
    show ((firstN ([35] : List UInt8) s.data.toList : Nat) : Int) ≤ _
    omega) ?_))
  simp only [Int.toNat_natCast]
  rw [show (cutS s (⟨#[35]⟩ : ByteArray)).1 = s.extract 0 (firstN ((⟨#[35]⟩ : ByteArray)).data.toList s.data.toList) from cut_first s 35]
  have hz : (s.extract 0 (firstN ((⟨#[35]⟩ : ByteArray)).data.toList s.data.toList)).size ≤ 512 := by rw [ByteArray.size_extract]; omega
  generalize s.extract 0 (firstN ((⟨#[35]⟩ : ByteArray)).data.toList s.data.toList) = t at hz ⊢
  refine Ev.bind (behind_ev t (by omega)) ?_
  unfold bodyU
  rcases index_cases t.data.toList ([58, 47, 47] : List UInt8) with hi | ⟨A, R, hl, hi⟩
  · have hc : (cutS t sSep).2.2 = false := by
      unfold cutS Lib.cut
      rw [show sSep.data.toList = ([58, 47, 47] : List UInt8) from rfl, hi, if_neg (by decide)]
    rw [hc, hi]
    exact evPos (by decide) (Ev.now _)
  · have hlen : t.size = A.length + (3 + R.length) := by rw [size_len, hl]; simp; omega
    have hc : cutS t sSep = (bsOf A, bsOf R, true) := by
      unfold cutS Lib.cut
      rw [show sSep.data.toList = ([58, 47, 47] : List UInt8) from rfl, hi, if_pos (by omega), hl]
      simp
    rw [hc, hi, if_pos rfl]
    have e3 : wrap64 ((A.length : Int) + 3) = ((A ++ ([58, 47, 47] : List UInt8)).length : Int) := by simp; unfold wrap64; omega
    rw [e3]
    obtain ⟨B, C, eR, hE, hB, hCr⟩ := fcase ([47, 63] : List UInt8) R
    obtain ⟨D, F, eC, hQ, hD, hF⟩ := fcase ([63] : List UInt8) C
    have lR : R.length = B.length + (D.length + F.length) := by rw [eR, eC]; simp
    refine evNeg (by omega) (Ev.bind (first_ev t (⟨#[47, 63]⟩ : ByteArray) (A ++ ([58, 47, 47] : List UInt8)) R (by omega) (by decide) (by rw [hl]; simp)) ?_)
    have n1 : (A ++ ([58, 47, 47] : List UInt8)).length + firstN ((⟨#[47, 63]⟩ : ByteArray)).data.toList R = (A ++ ([58, 47, 47] : List UInt8) ++ B).length := by
      rw [show ((⟨#[47, 63]⟩ : ByteArray)).data.toList = ([47, 63] : List UInt8) from rfl, hE]
      simp
      omega
    rw [n1]
    have ln : (A ++ ([58, 47, 47] : List UInt8) ++ B).length = A.length + 3 + B.length := by simp; omega
    have x1 : t.extract 0 (A ++ ([58, 47, 47] : List UInt8) ++ B).length = bsOf A ++ sSep ++ (bsOf R).extract 0 B.length := by
      refine ba_ext ?_
      rw [extract_list, append_list, append_list, extract_list, hl, eR]
      simp only [bsOf_data, List.drop_zero, show sSep.data.toList = ([58, 47, 47] : List UInt8) from rfl]
      rw [List.take_left, show A ++ (([58, 47, 47] : List UInt8) ++ (B ++ C)) = (A ++ ([58, 47, 47] : List UInt8) ++ B) ++ C by simp, List.take_left]
    have x2 : (bsOf R).extract B.length (bsOf R).size = bsOf (D ++ F) := by
      refine ba_ext ?_
      rw [extract_list, size_bsOf]
      simp only [bsOf_data]
      rw [List.take_length, eR, eC, List.drop_left]
    have hen : endsAt (bsOf R) = B.length := by rw [ends_first, bsOf_data]; exact hE
    unfold restU
    rw [hen, ← x1, x2]
    simp only [Int.toNat_natCast]
    refine evPos (by omega) (evPos (by omega) (Ev.bind (parse3_ev _ (by rw [ByteArray.size_extract]; omega)) ?_))
    obtain ⟨p1, p2⟩ := parse_sizes (t.extract 0 (A ++ ([58, 47, 47] : List UInt8) ++ B).length) (by rw [ByteArray.size_extract]; omega)
    generalize parseS (t.extract 0 (A ++ ([58, 47, 47] : List UInt8) ++ B).length) = o at p1 p2 ⊢
    refine evIte (fun h0 => ?_) fun h0 => Ev.now _
    refine Ev.bind (first_ev t (⟨#[63]⟩ : ByteArray) (A ++ ([58, 47, 47] : List UInt8) ++ B) C (by omega) (by decide) (by rw [hl, eR]; simp)) ?_
    have n2 : (A ++ ([58, 47, 47] : List UInt8) ++ B).length + firstN ((⟨#[63]⟩ : ByteArray)).data.toList C = (A ++ ([58, 47, 47] : List UInt8) ++ B ++ D).length := by
      rw [show ((⟨#[63]⟩ : ByteArray)).data.toList = ([63] : List UInt8) from rfl, hQ]
      simp
      omega
    have ln2 : (A ++ ([58, 47, 47] : List UInt8) ++ B ++ D).length = A.length + 3 + B.length + D.length := by simp; omega
    rw [n2]
    simp only [Int.toNat_natCast]
    have ht : t.data.toList = (A ++ ([58, 47, 47] : List UInt8) ++ B) ++ (D ++ F) := by rw [hl, eR, eC]; simp
    have x3 : t.extract (A ++ ([58, 47, 47] : List UInt8) ++ B).length (A ++ ([58, 47, 47] : List UInt8) ++ B ++ D).length = bsOf D := by
      refine ba_ext ?_
      rw [extract_list, bsOf_data, ht, show (A ++ ([58, 47, 47] : List UInt8) ++ B) ++ (D ++ F) = (A ++ ([58, 47, 47] : List UInt8) ++ B ++ D) ++ F by simp, List.take_left, List.drop_left]
    have x4 : t.extract (A ++ ([58, 47, 47] : List UInt8) ++ B ++ D).length t.size = bsOf F := by
      refine ba_ext ?_
      rw [extract_list, bsOf_data, size_len, List.take_length, ht, show (A ++ ([58, 47, 47] : List UInt8) ++ B) ++ (D ++ F) = (A ++ ([58, 47, 47] : List UInt8) ++ B ++ D) ++ F by simp, List.drop_left]
    rw [x3, x4]
    exact evPos (by omega) (evPos (by omega) (evPos (by omega) (rp_loop _ _ _ _ D F p1 p2 (by omega) (by omega) hD hF)))
theorem indexByte_mem (l : Bs) (c : UInt8) : decide (Lib.indexByte l c ≥ 0) = l.contains c := by
  induction l with
  | nil => rfl
  | cons b l ih =>
    unfold Lib.indexByte
    have hge := Lib.indexByte_ge l c
    by_cases h : b = c
    · subst h
      simp
    · have h1 : (b == c) = false := by simpa using h
      have h2 : (c == b) = false := by simpa using fun e => h e.symm
      rw [h1, List.contains_cons, h2, Bool.false_or, ← ih]
      simp only [Bool.false_eq_true, if_false]
      by_cases h3 : Lib.indexByte l c = -1
      · simp [h3]
      · have h4 : (Lib.indexByte l c == -1) = false := by simpa using h3
        rw [h4]
        simp
        omega
def isBl (c : UInt8) : Bool := c == 9 || c == 10 || c == 13 || c == 32
theorem blank_f (c : UInt8) : octet_blank.f (c.toNat : Int) = some (isBl c) := by
  unfold octet_blank.f strings_IndexByte.f
  simp only [Option.bind_some]
  rw [indexByte_mem]
  congr 1
  rw [Bool.eq_iff_iff]
  simp [isBl, or_assoc]
def trimR (l : Bs) : Bs := (l.reverse.dropWhile isBl).reverse
def trimL (l : Bs) : Bs := trimR (l.dropWhile isBl)
def trimS (s : ByteArray) : ByteArray := bsOf (trimL s.data.toList)
theorem trim_l1 (n : Nat) : ∀ s : ByteArray, s.size = n → n ≤ 4611686018427387904 → Ev (fun k => octet_Trim.l1 k s) (bsOf (trimR s.data.toList)) := by
  induction n with
  | zero =>
    intro s hs _
    have hl : s.data.toList = [] := List.eq_nil_of_length_eq_zero (by rw [← size_len]; exact hs)
    refine Ev.step (f := fun _ => some s) (fun k => ?_) ?_
    · simp only [octet_Trim.l1]
      rw [if_pos (by rw [tl, hl])]
    · rw [hl, ← bsOf_of s, hl]
      exact Ev.now _
  | succ n ih =>
    intro s hs hn
    have hlen : s.data.toList.length = n + 1 := by rw [← size_len]; exact hs
    obtain ⟨l, c, hl⟩ : ∃ l c, s.data.toList = l ++ [c] := by
      have hne : s.data.toList ≠ [] := by intro e; rw [e] at hlen; simp at hlen
      exact ⟨_, _, (List.dropLast_concat_getLast hne).symm⟩
    have hll : l.length = n := by rw [hl] at hlen; simpa using hlen
    have hw : wrap64 ((s.size : Int) - 1) = (n : Int) := by rw [hs]; unfold wrap64; omega
    have hb : bt s ((n : Nat) : Int) = (c.toNat : Int) := by
      rw [bt_get s n (by omega), hl]
      simp [List.getD_eq_getElem?_getD, hll]
    have hne : ¬ s.toList = [] := by rw [tl, hl]; simp
    by_cases hc : isBl c = true
    · refine Ev.step (f := fun k => octet_Trim.l1 k (s.extract 0 n)) (fun k => ?_) ?_
      · simp only [octet_Trim.l1]
        rw [if_neg hne, hw, if_pos (by omega), if_pos (by omega), hb, blank_f]
        simp only [Option.bind_some]
        rw [if_pos hc, if_pos (by omega)]
        rfl
      · have he : (s.extract 0 n).data.toList = l := by
          rw [extract_list, hl]
          simp [← hll]
        have hsz : (s.extract 0 n).size = n := by rw [size_len, he, hll]
        have := ih _ hsz (by omega)
        rw [he] at this
        have e2 : trimR s.data.toList = trimR l := by
          rw [hl]
          simp [trimR, hc]
        rw [e2]
        exact this
    · refine Ev.step (f := fun _ => some s) (fun k => ?_) ?_
      · simp only [octet_Trim.l1]
        rw [if_neg hne, hw, if_pos (by omega), if_pos (by omega), hb, blank_f]
        simp only [Option.bind_some]
        rw [if_neg hc]
      · have e2 : trimR s.data.toList = s.data.toList := by
          rw [hl]
          simp [trimR, hc]
        rw [e2, bsOf_of]
        exact Ev.now _
theorem trim_j1 (s : ByteArray) (hn : s.size ≤ 4611686018427387904) : Ev (fun k => octet_Trim.j1 k s) (bsOf (trimR s.data.toList)) :=
  Ev.step (fun k => rfl) (trim_l1 _ s rfl hn)
theorem trim_l0 (n : Nat) : ∀ s : ByteArray, s.size = n → n ≤ 4611686018427387904 → Ev (fun k => octet_Trim.l0 k s) (trimS s) := by
  induction n with
  | zero =>
    intro s hs hn
    have hl : s.data.toList = [] := List.eq_nil_of_length_eq_zero (by rw [← size_len]; exact hs)
    refine Ev.step (f := fun k => octet_Trim.j1 k s) (fun k => ?_) ?_
    · simp only [octet_Trim.l0]
      rw [if_pos (by rw [tl, hl])]
    · have := trim_j1 s (by omega)
      unfold trimS trimL
      rw [hl] at this ⊢
      exact this
  | succ n ih =>
    intro s hs hn
    have hlen : s.data.toList.length = n + 1 := by rw [← size_len]; exact hs
    obtain ⟨c, l, hl⟩ : ∃ c l, s.data.toList = c :: l := by
      cases h : s.data.toList with
      | nil => rw [h] at hlen; simp at hlen
      | cons c l => exact ⟨c, l, rfl⟩
    have hll : l.length = n := by rw [hl] at hlen; simpa using hlen
    have hb : bt s 0 = (c.toNat : Int) := by
      have := bt_get s 0 (by omega)
      rw [hl] at this
      simpa using this
    have hne : ¬ s.toList = [] := by rw [tl, hl]; simp
    by_cases hc : isBl c = true
    · refine Ev.step (f := fun k => octet_Trim.l0 k (s.extract 1 s.size)) (fun k => ?_) ?_
      · simp only [octet_Trim.l0]
        rw [if_neg hne, if_pos (by omega), hb, blank_f]
        simp only [Option.bind_some]
        rw [if_pos hc, if_pos (by omega)]
      · have he : (s.extract 1 s.size).data.toList = l := by
          rw [extract_list, hl, hs]
          simp [← hll]
        have hsz : (s.extract 1 s.size).size = n := by rw [size_len, he, hll]
        have := ih _ hsz (by omega)
        unfold trimS at this ⊢
        rw [he] at this
        rw [hl]
        have e2 : trimL (c :: l) = trimL l := by simp [trimL, hc]
        rw [e2]
        exact this
    · refine Ev.step (f := fun k => octet_Trim.j1 k s) (fun k => ?_) ?_
      · simp only [octet_Trim.l0]
        rw [if_neg hne, if_pos (by omega), hb, blank_f]
        simp only [Option.bind_some]
        rw [if_neg hc]
      · have := trim_j1 s (by omega)
        unfold trimS trimL
        have e2 : s.data.toList.dropWhile isBl = s.data.toList := by rw [hl]; simp [hc]
        rw [e2]
        exact this
theorem trim_ev (s : ByteArray) (hn : s.size ≤ 4611686018427387904) : Ev (fun k => octet_Trim.f k s) (trimS s) := trim_l0 _ s rfl hn
def foldB (a b : ByteArray) : Bool := lowL a.data.toList == lowL b.data.toList
theorem fold_f (a b : ByteArray) (ha : a.size ≤ 9223372036854775807) (hb : b.size ≤ 9223372036854775807) : octet_Fold.f a b = some (foldB a b) := by
  unfold octet_Fold.f
  rw [lower_f a ha, lower_f b hb]
  simp only [Option.bind_some]
  rw [tl_beq]
  rfl
abbrev Hd := S28
def HOk (l : List Hd) : Prop := l.length ≤ 1000 ∧ ∀ h ∈ l, h.f0.size ≤ 1000000 ∧ h.f1.size ≤ 1000000
theorem trimL_length (l : Bs) : (trimL l).length ≤ l.length := by
  unfold trimL trimR
  have h1 := (List.dropWhile_sublist isBl (l := l)).length_le
  have h2 := (List.dropWhile_sublist isBl (l := (l.dropWhile isBl).reverse)).length_le
  simp only [List.length_reverse] at h2 ⊢
  omega
theorem trimS_size (s : ByteArray) : (trimS s).size ≤ s.size := by
  unfold trimS
  rw [size_bsOf, size_len]
  exact trimL_length _
theorem rd_mid (p : List Hd) (h : Hd) (r : List Hd) : rd_T28 (p ++ h :: r) (p.length : Int) = h := by
  simp [rd_T28, List.getD_eq_getElem?_getD]
theorem great_l0 (l : List Hd) (hl : l.length ≤ 40) (r : List Hd) : ∀ (p : List Hd) (n : Int), p ++ r = l → (∀ h ∈ p, h.f0.size ≤ 100 ∧ h.f1.size ≤ 5000) → 0 ≤ n → n ≤ 5000 * p.length →
    ∃ b, Ev (fun k => lockkeeperlaw0_GreatHeaders.l0 k l n (p.length : Int)) b ∧ (b = false → ∀ h ∈ l, h.f0.size ≤ 100 ∧ h.f1.size ≤ 5000) := by
  induction r with
  | nil =>
    intro p n hp hall h0 hn
    rw [List.append_nil] at hp
    subst hp
    refine ⟨decide (n > 12000), evSucc ?_, fun _ => hall⟩
    simp only [lockkeeperlaw0_GreatHeaders.l0]
    exact evNeg (by omega) (Ev.now _)
  | cons h r ih =>
    intro p n hp hall h0 hn
    have hlen : l.length = p.length + (r.length + 1) := by rw [← hp]; simp
    have hr : rd_T28 l (p.length : Int) = h := by rw [← hp]; exact rd_mid p h r
    by_cases h1 : (h.f0.size : Int) > 100
    · refine ⟨true, evSucc ?_, fun h => by cases h⟩
      simp only [lockkeeperlaw0_GreatHeaders.l0, hr]
      exact evPos (by omega) (evPos (by omega) (evPos h1 (Ev.now _)))
    · by_cases h2 : (h.f1.size : Int) > 5000
      · refine ⟨true, evSucc ?_, fun h => by cases h⟩
        simp only [lockkeeperlaw0_GreatHeaders.l0, hr]
        exact evPos (by omega) (evPos (by omega) (evNeg h1 (evPos h2 (Ev.now _))))
      · obtain ⟨b, hb, hB⟩ := ih (p ++ [h]) (n + h.f1.size) (by simpa using hp) (fun x hx => by
          rcases List.mem_append.1 hx with hx | hx
          · exact hall x hx
          · rw [List.mem_singleton.1 hx]; omega) (by omega) (by simp; omega)
        refine ⟨b, evSucc ?_, hB⟩
        simp only [lockkeeperlaw0_GreatHeaders.l0, hr]
        refine evPos (by omega) (evPos (by omega) (evNeg h1 (evNeg h2 ?_)))
        have e1 : wrap64 (n + (h.f1.size : Int)) = n + h.f1.size := by unfold wrap64; omega
        have e2 : wrap64 ((p.length : Int) + 1) = ((p ++ [h]).length : Int) := by simp; unfold wrap64; omega
        rw [e1, e2]
        exact hb
def HSmall (l : List Hd) : Prop := l.length ≤ 40 ∧ ∀ h ∈ l, h.f0.size ≤ 100 ∧ h.f1.size ≤ 5000
theorem great_ev (l : List Hd) : ∃ b, Ev (fun k => lockkeeperlaw0_GreatHeaders.f k l) b ∧ (b = false → HSmall l) := by
  unfold lockkeeperlaw0_GreatHeaders.f
  by_cases h : (l.length : Int) > 40
  · exact ⟨true, evPos h (Ev.now _), fun h => by cases h⟩
  · obtain ⟨b, hb, hB⟩ := great_l0 l (by omega) l [] 0 rfl (by simp) (by omega) (by simp)
    exact ⟨b, evNeg h hb, fun e => ⟨by omega, hB e⟩⟩
theorem headers_l0 (l : List Hd) (hl : l.length ≤ 9223372036854775807) (r : List Hd) : ∀ p : List Hd, p ++ r = l → Ev (fun k => lockkeeperlaw0_Headers.l0 k l l (p.length : Int)) true := by
  induction r with
  | nil =>
    intro p hp
    rw [List.append_nil] at hp
    subst hp
    refine evSucc ?_
    simp only [lockkeeperlaw0_Headers.l0]
    exact evNeg (by omega) (Ev.now _)
  | cons h r ih =>
    intro p hp
    have hlen : l.length = p.length + (r.length + 1) := by rw [← hp]; simp
    refine evSucc ?_
    simp only [lockkeeperlaw0_Headers.l0]
    refine evPos (by omega) (evPos (by omega) (evPos (by omega) (evNeg (by simp) ?_)))
    have e2 : wrap64 ((p.length : Int) + 1) = ((p ++ [h]).length : Int) := by simp; unfold wrap64; omega
    rw [e2]
    exact ih (p ++ [h]) (by simpa using hp)
theorem headers_refl (l : List Hd) (hl : l.length ≤ 9223372036854775807) : Ev (fun k => lockkeeperlaw0_Headers.f k l l) true := by
  unfold lockkeeperlaw0_Headers.f
  exact evPos rfl (headers_l0 l hl l [] rfl)
theorem bs_lt_irrefl (a : Bs) : ¬ a < a := List.lt_irrefl a
theorem bs_lt_trans {a b c : Bs} (h : a < b) (h' : b < c) : a < c := List.lt_trans h h'
theorem bs_le_or (a b : Bs) : a ≤ b ∨ b ≤ a := List.le_total a b
theorem bs_lt_of {a b : Bs} (h : a ≤ b) (hn : b ≠ a) : a < b := by
  rcases Classical.em (a < b) with h' | h'
  · exact h'
  · exact absurd (List.le_antisymm (List.not_lt.1 h') h) hn
theorem bs_le_lt {a b c : Bs} (h : a ≤ b) (h' : b < c) : a < c := List.lt_of_le_of_lt h h'
abbrev Rises (l : List Bs) : Prop := l.Pairwise (· < ·)
theorem compactUpTo_mem (d : Array Bs) : ∀ m i, i < m → d[i]! ∈ Lib.compactUpTo d m := by
  intro m
  induction m with
  | zero => intro i hi; omega
  | succ m ih =>
    intro i hi
    rw [Lib.compactUpTo_succ]
    by_cases h : i < m
    · exact List.mem_append_left _ (ih i h)
    · obtain rfl : i = m := by omega
      cases hk : Lib.keeps d i with
      | true => simp
      | false =>
        have : ¬ (i = 0 ∨ d[i]! ≠ d[i - 1]!) := by simpa [Lib.keeps] using hk
        have h0 : i ≠ 0 := fun e => this (.inl e)
        have h1 : d[i]! = d[i - 1]! := Classical.byContradiction fun e => this (.inr e)
        rw [h1]
        exact List.mem_append_left _ (ih (i - 1) (by omega))
theorem compact_mem (zs : List Bs) (x : Bs) : x ∈ Lib.compact zs ↔ x ∈ zs := by
  constructor
  · intro h
    unfold Lib.compact Lib.compactUpTo at h
    obtain ⟨i, hi, rfl⟩ := List.mem_map.1 h
    have hi' : i < zs.length := List.mem_range.1 (List.mem_filter.1 hi).1
    simp [getElem!_pos, hi']
  · intro h
    obtain ⟨i, hi, rfl⟩ := List.getElem_of_mem h
    have := compactUpTo_mem zs.toArray zs.length i hi
    simpa [Lib.compact, getElem!_pos, hi] using this
theorem compactUpTo_rises (d : Array Bs) (hd : ∀ i, i + 1 < d.size → d[i]! ≤ d[i + 1]!) : ∀ m, m ≤ d.size → Rises (Lib.compactUpTo d m) ∧ ∀ x ∈ Lib.compactUpTo d m, x ≤ d[m - 1]! := by
  intro m
  induction m with
  | zero => intro _; exact ⟨by simp [Lib.compactUpTo, Rises], by simp [Lib.compactUpTo]⟩
  | succ m ih =>
    intro hm
    obtain ⟨h1, h2⟩ := ih (by omega)
    rw [Lib.compactUpTo_succ]
    cases hk : Lib.keeps d m with
    | true =>
      have hk' : m = 0 ∨ d[m]! ≠ d[m - 1]! := by simpa [Lib.keeps] using hk
      simp only [if_true]
      rcases Nat.eq_zero_or_pos m with rfl | hp
      · refine ⟨by simp [Lib.compactUpTo, Rises], ?_⟩
        intro x hx
        have : x = d[0]! := by simpa [Lib.compactUpTo] using hx
        rw [this]
        exact List.le_refl _
      · have hne := hk'.resolve_left (by omega)
        have hle : d[m - 1]! ≤ d[m]! := by
          have := hd (m - 1) (by omega)
          rwa [show m - 1 + 1 = m by omega] at this
        have hlt := bs_lt_of hle hne
        refine ⟨List.pairwise_append.2 ⟨h1, by simp, ?_⟩, ?_⟩
        · intro x hx y hy
          rw [List.mem_singleton.1 hy]
          exact bs_le_lt (h2 x hx) hlt
        · intro x hx
          rcases List.mem_append.1 hx with hx | hx
          · exact List.le_of_lt (bs_le_lt (h2 x hx) hlt)
          · rw [List.mem_singleton.1 hx]
            exact List.le_refl _
    | false =>
      have : ¬ (m = 0 ∨ d[m]! ≠ d[m - 1]!) := by simpa [Lib.keeps] using hk
      have h0 : m ≠ 0 := fun e => this (.inl e)
      have e1 : d[m]! = d[m - 1]! := Classical.byContradiction fun e => this (.inr e)
      simp only [Bool.false_eq_true, if_false, List.append_nil]
      refine ⟨h1, fun x hx => ?_⟩
      have := h2 x hx
      rw [← e1] at this
      exact this
def riseL (l : List Bs) : List Bs := Lib.compact (l.mergeSort fun x y => decide (x ≤ y))
theorem riseL_mem (l : List Bs) (x : Bs) : x ∈ riseL l ↔ x ∈ l := by
  unfold riseL
  rw [compact_mem]
  exact (List.mergeSort_perm _ _).mem_iff
theorem riseL_rises (l : List Bs) : Rises (riseL l) := by
  unfold riseL Lib.compact
  refine (compactUpTo_rises _ ?_ _ (by simp)).1
  intro i hi
  have hi' : i + 1 < (l.mergeSort fun x y => decide (x ≤ y)).length := by simpa using hi
  have hp := List.pairwise_mergeSort (le := fun x y : Bs => decide (x ≤ y)) (fun a b c h1 h2 => by simp at h1 h2 ⊢; exact List.le_trans h1 h2) (fun a b => by simpa using bs_le_or a b) l
  have := List.pairwise_iff_getElem.1 hp i (i + 1) (by omega) hi' (by omega)
  have e : ∀ (a : List Bs) (j : Nat) (h : j < a.length), a.toArray[j]! = a[j] := by intro a j h; simp [h]
  rw [e _ _ (by omega), e _ _ hi']
  simpa using this
theorem rises_sublist : ∀ {b a : List Bs}, Rises a → Rises b → (∀ x ∈ a, x ∈ b) → a.Sublist b := by
  intro b
  induction b with
  | nil =>
    intro a _ _ h
    cases a with
    | nil => exact .slnil
    | cons x a => exact absurd (h x (by simp)) (by simp)
  | cons y b ih =>
    intro a ha hb h
    cases a with
    | nil => exact List.nil_sublist _
    | cons x a =>
      have ha' := List.pairwise_cons.1 ha
      have hb' := List.pairwise_cons.1 hb
      by_cases e : x = y
      · subst e
        refine .cons_cons _ (ih ha'.2 hb'.2 fun z hz => ?_)
        rcases List.mem_cons.1 (h z (by simp [hz])) with e | e
        · subst e; exact absurd (ha'.1 _ hz) (bs_lt_irrefl _)
        · exact e
      · have hx : x ∈ b := (List.mem_cons.1 (h x (by simp))).resolve_left e
        have hyx := hb'.1 x hx
        refine .cons _ (ih ha hb'.2 fun z hz => ?_)
        refine (List.mem_cons.1 (h z hz)).resolve_left fun e' => ?_
        subst e'
        rcases List.mem_cons.1 hz with e' | e'
        · exact e e'.symm
        · exact bs_lt_irrefl _ (bs_lt_trans hyx (ha'.1 _ e'))
theorem rises_eq {a b : List Bs} (ha : Rises a) (hb : Rises b) (h : ∀ x, x ∈ a ↔ x ∈ b) : a = b :=
  (rises_sublist ha hb fun x hx => (h x).1 hx).eq_of_length_le (rises_sublist hb ha fun x hx => (h x).2 hx).length_le
theorem riseL_congr {a b : List Bs} (h : ∀ x, x ∈ a ↔ x ∈ b) : riseL a = riseL b :=
  rises_eq (riseL_rises a) (riseL_rises b) fun x => by rw [riseL_mem, riseL_mem]; exact h x
abbrev lists (l : List ByteArray) : List Bs := l.map (·.data.toList)
def riseB (l : List ByteArray) : List ByteArray := (riseL (lists l)).map bsOf
theorem lists_bsOf (l : List Bs) : lists (l.map bsOf) = l := by
  simp [lists, bsOf_data, Function.comp_def]
theorem lists_inj {a b : List ByteArray} (h : lists a = lists b) : a = b := by
  have := congrArg (List.map bsOf) h
  simpa [lists, bsOf_of, Function.comp_def] using this
theorem lists_rise (l : List ByteArray) : lists (riseB l) = riseL (lists l) := lists_bsOf _
theorem riseB_mem (l : List ByteArray) (x : ByteArray) : x ∈ riseB l ↔ x ∈ l := by
  have h1 : ∀ (m : List ByteArray), x ∈ m ↔ x.data.toList ∈ lists m := by
    intro m
    constructor
    · intro h; exact List.mem_map.2 ⟨x, h, rfl⟩
    · intro h
      obtain ⟨y, hy, e⟩ := List.mem_map.1 h
      rw [← ba_ext e]; exact hy
  rw [h1, lists_rise, riseL_mem, ← h1]
theorem riseB_congr {a b : List ByteArray} (h : ∀ x, x ∈ a ↔ x ∈ b) : riseB a = riseB b := by
  unfold riseB
  rw [riseL_congr (a := lists a) (b := lists b)]
  intro x
  constructor
  · intro hx
    obtain ⟨y, hy, rfl⟩ := List.mem_map.1 hx
    exact List.mem_map.2 ⟨y, (h y).1 hy, rfl⟩
  · intro hx
    obtain ⟨y, hy, rfl⟩ := List.mem_map.1 hx
    exact List.mem_map.2 ⟨y, (h y).2 hy, rfl⟩
theorem riseL_length (l : List Bs) : (riseL l).length ≤ l.length := by
  unfold riseL
  have h1 := compact_len (l.mergeSort fun x y => decide (x ≤ y))
  have h2 : (l.mergeSort fun x y => decide (x ≤ y)).length = l.length := by simp
  omega
theorem riseB_length (l : List ByteArray) : (riseB l).length ≤ l.length := by
  have := riseL_length (lists l)
  simpa [riseB] using this
theorem sortCompact (l : List ByteArray) : compactB (sortB l) = riseB l := by
  unfold compactB sortB riseB riseL
  rw [show (((l.map (·.data.toList)).mergeSort fun x y => decide (x ≤ y)).map bsOf).map (·.data.toList) = (l.map (·.data.toList)).mergeSort fun x y => decide (x ≤ y) from lists_bsOf _]
theorem sort_f (l : List ByteArray) (h : l.length < 4611686018427387904) : slices_Sort_string_string.f l = some (sortB l) := by
  unfold slices_Sort_string_string.f
  rw [if_pos h]
theorem compact_f (l : List ByteArray) (h : l.length ≤ 9223372036854775807) : slices_Compact_string_string.f l = some (compactB l) := by
  unfold slices_Compact_string_string.f
  rw [if_pos h]
def namesS (l : List Hd) : List ByteArray := riseB (l.map fun h => lowB h.f0)
theorem namesS_mem (l : List Hd) (x : ByteArray) : x ∈ namesS l ↔ ∃ h ∈ l, lowB h.f0 = x := by
  unfold namesS
  rw [riseB_mem, List.mem_map]
theorem texts_l0 (l : List ByteArray) (hl : l.length ≤ 9223372036854775806) : ∀ (n i : Nat), i + n = l.length → Ev (fun k => lockkeeperlaw0_Texts.l0 k l l (i : Int)) true := by
  intro n
  induction n with
  | zero =>
    intro i hi
    refine evSucc ?_
    simp only [lockkeeperlaw0_Texts.l0]
    exact evNeg (by omega) (Ev.now _)
  | succ n ih =>
    intro i hi
    refine evSucc ?_
    simp only [lockkeeperlaw0_Texts.l0]
    have e2 : wrap64 ((i : Int) + 1) = ((i + 1 : Nat) : Int) := by unfold wrap64; omega
    rw [e2]
    exact evPos (by omega) (evPos (by omega) (evPos (by omega) (evPos (by simp) (ih (i + 1) (by omega)))))
theorem texts_refl (l : List ByteArray) (hl : l.length ≤ 9223372036854775806) : Ev (fun k => lockkeeperlaw0_Texts.f k l l) true := by
  unfold lockkeeperlaw0_Texts.f
  exact evPos rfl (by simpa using texts_l0 l hl l.length 0 (by omega))
def isLet (c : UInt8) : Bool := (octet_letter.f (c.toNat : Int)).getD false
theorem letter_f (c : UInt8) : octet_letter.f (c.toNat : Int) = some (isLet c) := by
  unfold isLet octet_letter.f
  repeat' split
  all_goals rfl
def isMark (c : UInt8) : Bool := !(decide (Lib.indexByte ((⟨#[33, 35, 36, 37, 38, 39, 42, 43, 45, 46, 94, 95, 96, 124, 126]⟩ : ByteArray)).data.toList c < 0))
theorem mark_f (c : UInt8) : strings_IndexByte.f (⟨#[33, 35, 36, 37, 38, 39, 42, 43, 45, 46, 94, 95, 96, 124, 126]⟩ : ByteArray) (c.toNat : Int) = some (Lib.indexByte ((⟨#[33, 35, 36, 37, 38, 39, 42, 43, 45, 46, 94, 95, 96, 124, 126]⟩ : ByteArray)).data.toList c) := by
  unfold strings_IndexByte.f
  simp
def isTok (c : UInt8) : Bool := isLet c || isDig c || isMark c
def tokS (s : ByteArray) : Bool := s.data.toList.all isTok && s.data.toList != []
theorem token_l0 (s : ByteArray) (hs : s.size ≤ 4611686018427387904) (r : Bs) : ∀ (p : Bs), s.data.toList = p ++ r →
    Ev (fun k => octet_Token.l0 k s (s.size : Int) (p.length : Int)) (r.all isTok && s.data.toList != []) := by
  induction r with
  | nil =>
    intro p hp
    have hl : s.size = p.length := by rw [size_len, hp]; simp
    refine evSucc ?_
    simp only [octet_Token.l0]
    refine evNeg (by omega) (evEq (Ev.now _) ?_)
    rw [tl]
    simp
  | cons c r ih =>
    intro p hp
    have hl : s.size = p.length + (r.length + 1) := by rw [size_len, hp]; simp
    have hb := bt_mid s p c r hp
    have e2 : wrap64 ((p.length : Int) + 1) = ((p ++ [c]).length : Int) := by simp; unfold wrap64; omega
    have ih' := ih (p ++ [c]) (by simpa using hp)
    refine evSucc ?_
    simp only [octet_Token.l0, hb, e2]
    refine evPos (by omega) (evPos (by omega) (evPos (by omega) (evBind (letter_f c) ?_)))
    rw [List.all_cons]
    cases h1 : isLet c with
    | true => exact evPos rfl (evEq ih' (by simp [isTok, h1]))
    | false =>
      refine evNeg (by decide) (evBind (digit_f c) ?_)
      cases h2 : isDig c with
      | true => exact evPos rfl (evEq ih' (by simp [isTok, h2]))
      | false =>
        refine evNeg (by decide) (evBind (mark_f c) ?_)
        by_cases h3 : Lib.indexByte ((⟨#[33, 35, 36, 37, 38, 39, 42, 43, 45, 46, 94, 95, 96, 124, 126]⟩ : ByteArray)).data.toList c < 0
        · exact evPos h3 (evEq (Ev.now _) (by simp [isTok, h1, h2, isMark, h3]))
        · refine evNeg h3 (evEq ih' ?_)
          have : isTok c = true := by simp only [isTok, isMark, h3, decide_false, Bool.not_false, Bool.or_true]
          rw [this, Bool.true_and]
theorem token_ev (s : ByteArray) (hs : s.size ≤ 4611686018427387904) : Ev (fun k => octet_Token.f k s) (tokS s) := token_l0 s hs s.data.toList [] rfl
def preS (s : ByteArray) : ByteArray × Bool := if (s.data.toList.take 6) = ([98, 121, 116, 101, 115, 61] : List UInt8) then (bsOf (s.data.toList.drop 6), true) else (s, false)
theorem prefix_f (s : ByteArray) : strings_CutPrefix.f s (⟨#[98, 121, 116, 101, 115, 61]⟩ : ByteArray) = some (preS s) := by
  unfold strings_CutPrefix.f stringslite_CutPrefix.f stringslite_HasPrefix.f preS
  have h6 : ((⟨#[98, 121, 116, 101, 115, 61]⟩ : ByteArray)).size = 6 := rfl
  rw [h6]
  have e1 : (s.extract 0 6).toList = s.data.toList.take 6 := by rw [tl, extract_list]; rfl
  have e2 : s.extract 6 s.size = bsOf (s.data.toList.drop 6) := by
    apply ba_ext
    rw [extract_list, size_len, List.take_length]
    rfl
  by_cases h : (s.size : Int) ≥ ((6 : Nat) : Int)
  · rw [if_pos h, if_pos (by omega), if_pos (by omega)]
    simp only [Option.bind_some, Int.toNat_natCast]
    rw [e1]
    by_cases h' : s.data.toList.take 6 = ([98, 121, 116, 101, 115, 61] : List UInt8)
    · rw [if_pos (by rw [h', tl]; rfl), if_pos (by omega), if_pos (by omega), if_pos h', e2]
      rfl
    · rw [if_neg (by simpa [tl] using h'), if_neg h']
      rfl
  · rw [if_neg h]
    have h' : ¬ s.data.toList.take 6 = ([98, 121, 116, 101, 115, 61] : List UInt8) := by
      intro e
      have := congrArg List.length e
      rw [List.length_take, ← size_len] at this
      simp at this
      omega
    simp only [Option.bind_some, Bool.false_eq_true, if_false]
    rw [if_neg h']
theorem preS_size (s : ByteArray) : (preS s).1.size ≤ s.size := by
  have e := size_len s
  unfold preS
  split
  · simp only [size_bsOf, List.length_drop]; omega
  · exact Nat.le_refl _
def rangeS (s : ByteArray) : Bool :=
  if (preS s).2 = true then (if (cutS (preS s).1 (⟨#[45]⟩ : ByteArray)).2.2 = true then (if (digS (cutS (preS s).1 (⟨#[45]⟩ : ByteArray)).1).2 = true then
    (if (cutS (preS s).1 (⟨#[45]⟩ : ByteArray)).2.1.toList = ([] : List UInt8) then true else if (digS (cutS (preS s).1 (⟨#[45]⟩ : ByteArray)).2.1).2 = true then decide ((digS (cutS (preS s).1 (⟨#[45]⟩ : ByteArray)).2.1).1 ≥ (digS (cutS (preS s).1 (⟨#[45]⟩ : ByteArray)).1).1) else false)
    else false) else false) else false
theorem range_ev (s : ByteArray) (hs : s.size ≤ 4294967280) : Ev (fun k => safe_Range.f k s) (rangeS s) := by
  unfold safe_Range.f rangeS
  have h1 := preS_size s
  have h2 := cutS_size (preS s).1 (⟨#[45]⟩ : ByteArray)
  refine evBind (prefix_f s) (evBind (cut_f _ _ (by omega)) (Ev.bind (digits_ev _ (by omega)) ?_))
  exact evIte (fun _ => evIte (fun _ => evIte (fun _ => Ev.bind (digits_ev _ (by omega)) (evIte (fun _ => Ev.now _) fun _ => evIte (fun _ => Ev.now _) fun _ => Ev.now _)) fun _ => Ev.now _) fun _ => Ev.now _) fun _ => Ev.now _
def essS (s : ByteArray) : ByteArray × Bool :=
  if (cutS (trimS (cutS s (⟨#[59]⟩ : ByteArray)).1) (⟨#[47]⟩ : ByteArray)).2.2 = true then (if tokS (cutS (trimS (cutS s (⟨#[59]⟩ : ByteArray)).1) (⟨#[47]⟩ : ByteArray)).1 = true then (if tokS (cutS (trimS (cutS s (⟨#[59]⟩ : ByteArray)).1) (⟨#[47]⟩ : ByteArray)).2.1 = true then (lowB (trimS (cutS s (⟨#[59]⟩ : ByteArray)).1), true) else (⟨#[]⟩, false)) else (⟨#[]⟩, false)) else (⟨#[]⟩, false)
theorem ess_ev (s : ByteArray) (hs : s.size ≤ 4294967280) : Ev (fun k => safe_Essence.f k s) (essS s) := by
  unfold safe_Essence.f essS
  have h1 := cutS_size s (⟨#[59]⟩ : ByteArray)
  have h2 := trimS_size (cutS s (⟨#[59]⟩ : ByteArray)).1
  have h3 := cutS_size (trimS (cutS s (⟨#[59]⟩ : ByteArray)).1) (⟨#[47]⟩ : ByteArray)
  refine evBind (cut_f _ _ (by omega)) (Ev.bind (trim_ev _ (by omega)) (evBind (cut_f _ _ (by omega)) ?_))
  exact evIte (fun _ => Ev.bind (token_ev _ (by omega)) (evIte (fun _ => Ev.bind (token_ev _ (by omega)) (evIte (fun _ => evBind (lower_f _ (by omega)) (Ev.now _)) fun _ => Ev.now _)) fun _ => Ev.now _)) fun _ => Ev.now _
def formS (s : ByteArray) : Bool := if (essS s).1.toList = ([97, 112, 112, 108, 105, 99, 97, 116, 105, 111, 110, 47, 120, 45, 119, 119, 119, 45, 102, 111, 114, 109, 45, 117, 114, 108, 101, 110, 99, 111, 100, 101, 100] : List UInt8) then true else if (essS s).1.toList = ([109, 117, 108, 116, 105, 112, 97, 114, 116, 47, 102, 111, 114, 109, 45, 100, 97, 116, 97] : List UInt8) then true else (essS s).1.toList == ([116, 101, 120, 116, 47, 112, 108, 97, 105, 110] : List UInt8)
theorem form_ev (s : ByteArray) (hs : s.size ≤ 4294967280) : Ev (fun k => safe_isForm.f k s) (formS s) := by
  unfold safe_isForm.f formS
  exact Ev.bind (ess_ev s hs) (evIte (fun _ => Ev.now _) fun _ => evIte (fun _ => Ev.now _) fun _ => Ev.now _)
theorem allB_f (s : ByteArray) (h : s.size ≤ 9223372036854775806) : safe_all.f s 160 = some (allByte s) := by
  unfold safe_all.f
  rw [if_pos h, if_pos rfl]
theorem allW_f (s : ByteArray) (h : s.size ≤ 9223372036854775806) : safe_all.f s 161 = some (allWord s) := by
  unfold safe_all.f
  rw [if_pos h, if_neg (by decide), if_pos rfl]
def jointS (t n : ByteArray) (x : Bool) : Bool := if x = true then allWord t else if n.toList = ([99, 111, 110, 116, 101, 110, 116, 45, 116, 121, 112, 101] : List UInt8) then (if allByte t = true then formS t else false) else if n.toList = ([114, 97, 110, 103, 101] : List UInt8) then rangeS t else false
def safeS (f0 f1 : ByteArray) : Bool :=
  if ((trimS f1).size : Int) > 128 then false
  else if (lowB f0).toList = ([97, 99, 99, 101, 112, 116] : List UInt8) then allByte (trimS f1)
  else if (lowB f0).toList = ([97, 99, 99, 101, 112, 116, 45, 108, 97, 110, 103, 117, 97, 103, 101] : List UInt8) then jointS (trimS f1) (lowB f0) ((lowB f0).toList == ([97, 99, 99, 101, 112, 116, 45, 108, 97, 110, 103, 117, 97, 103, 101] : List UInt8))
  else jointS (trimS f1) (lowB f0) ((lowB f0).toList == ([99, 111, 110, 116, 101, 110, 116, 45, 108, 97, 110, 103, 117, 97, 103, 101] : List UInt8))
theorem header_j0 (t n : ByteArray) (hs : t.size ≤ 4294967280) (x : Bool) : Ev (fun k => safe_Header.j0 k t n x) (jointS t n x) := by
  refine evSucc ?_
  simp only [safe_Header.j0]
  unfold jointS
  exact evIte (fun _ => evBind (allW_f t (by omega)) (Ev.now _)) fun _ => evIte (fun _ => evBind (allB_f t (by omega)) (evIte (fun _ => Ev.bind (form_ev t hs) (Ev.now _)) fun _ => Ev.now _)) fun _ =>
    evIte (fun _ => Ev.bind (range_ev t hs) (Ev.now _)) fun _ => Ev.now _
theorem header_ev (f0 f1 : ByteArray) (h0 : f0.size ≤ 1000000) (h1 : f1.size ≤ 1000000) : Ev (fun k => safe_Header.f k f0 f1) (safeS f0 f1) := by
  unfold safe_Header.f safeS
  have ht := trimS_size f1
  refine Ev.bind (trim_ev f1 (by omega)) (evIte (fun _ => Ev.now _) fun _ => evBind (lower_f f0 (by omega)) ?_)
  exact evIte (fun _ => evBind (allB_f _ (by omega)) (Ev.now _)) fun _ => evIte (fun _ => header_j0 _ _ (by omega) _) fun _ => header_j0 _ _ (by omega) _
def hsafe (h : Hd) : Bool := safeS h.f0 h.f1
def lowN (l : List Hd) : List ByteArray := l.map fun h => lowB h.f0
def unsafeN (l : List Hd) : List ByteArray := lowN (l.filter fun h => !hsafe h)
def safeN (l : List Hd) : List ByteArray := lowN (l.filter hsafe)
def totalN (l : List Hd) : Nat := ((l.filter hsafe).map fun h => (trimS h.f1).size).sum
def snames (l : List Hd) : List ByteArray := if (totalN l : Int) > 1024 then riseB (unsafeN l ++ safeN l) else riseB (unsafeN l)
theorem unsafeN_append (l m : List Hd) : unsafeN (l ++ m) = unsafeN l ++ unsafeN m := by simp [unsafeN, lowN]
theorem safeN_append (l m : List Hd) : safeN (l ++ m) = safeN l ++ safeN m := by simp [safeN, lowN]
theorem totalN_append (l m : List Hd) : totalN (l ++ m) = totalN l + totalN m := by simp [totalN]
theorem unsafeN_length (l : List Hd) : (unsafeN l).length ≤ l.length := by
  have := List.length_filter_le (fun h => !hsafe h) l
  simpa [unsafeN, lowN] using this
theorem safeN_length (l : List Hd) : (safeN l).length ≤ l.length := by
  have := List.length_filter_le hsafe l
  simpa [safeN, lowN] using this
theorem sum_le (l : List Nat) (n : Nat) (h : ∀ x ∈ l, x ≤ n) : l.sum ≤ l.length * n := by
  induction l with
  | nil => simp
  | cons a l ih =>
    have h1 := h a (by simp)
    have h2 := ih fun x hx => h x (by simp [hx])
    simp only [List.sum_cons, List.length_cons, Nat.add_mul]
    omega
theorem totalN_le {l : List Hd} (hl : HOk l) : totalN l ≤ 1000000000 := by
  unfold totalN
  have h1 := sum_le ((l.filter hsafe).map fun h => (trimS h.f1).size) 1000000 (fun x hx => by
    obtain ⟨h, hm, rfl⟩ := List.mem_map.1 hx
    have := trimS_size h.f1
    have := (hl.2 h (List.mem_filter.1 hm).1).2
    omega)
  have h2 := List.length_filter_le hsafe l
  have h3 := hl.1
  rw [List.length_map] at h1
  have : (l.filter hsafe).length * 1000000 ≤ 1000 * 1000000 := Nat.mul_le_mul_right _ (by omega)
  omega
theorem HOk.left {l m : List Hd} (h : HOk (l ++ m)) : HOk l := ⟨by have := h.1; rw [List.length_append] at this; omega, fun x hx => h.2 x (List.mem_append_left _ hx)⟩
theorem snames_l0 (l : List Hd) (hl : HOk l) (r : List Hd) : ∀ p, p ++ r = l →
    Ev (fun k => safe_Names.l0 k (unsafeN p) (safeN p) (totalN p : Int) l (l.length : Int) (p.length : Int)) (snames l) := by
  have h1 := hl.1
  induction r with
  | nil =>
    intro p hp
    rw [List.append_nil] at hp
    subst hp
    have hu := unsafeN_length p
    have hs := safeN_length p
    refine evSucc ?_
    simp only [safe_Names.l0]
    refine evNeg (by omega) ?_
    unfold snames
    refine evIte (fun h => evPos (by omega) (evBind (sort_f _ (by rw [List.length_append]; omega)) (evBind (compact_f _ ?_) ?_))) (fun h => evBind (sort_f _ (by omega)) (evBind (compact_f _ ?_) ?_))
    · rw [sortB_length, List.length_append]; omega
    · rw [sortCompact]; exact Ev.now _
    · rw [sortB_length]; omega
    · rw [sortCompact]; exact Ev.now _
  | cons h r ih =>
    intro p hp
    have hlen : l.length = p.length + (r.length + 1) := by rw [← hp]; simp
    have hh := hl.2 h (by rw [← hp]; simp)
    have hr : rd_T28 l (p.length : Int) = h := by rw [← hp]; exact rd_mid p h r
    have e2 : wrap64 ((p.length : Int) + 1) = ((p ++ [h]).length : Int) := by simp; unfold wrap64; omega
    have hp' : (p ++ [h]) ++ r = l := by simpa using hp
    have hpo : HOk p := by rw [← hp] at hl; exact hl.left
    have ht := totalN_le hpo
    have hu := unsafeN_length p
    have hs := safeN_length p
    have htr := trimS_size h.f1
    have ih' := ih (p ++ [h]) hp'
    rw [unsafeN_append, safeN_append, totalN_append] at ih'
    refine evSucc ?_
    simp only [safe_Names.l0, hr, e2]
    refine evPos (by omega) (evPos (by omega) (evPos (by omega) (Ev.bind (header_ev _ _ hh.1 hh.2) ?_)))
    cases hd : safeS h.f0 h.f1 with
    | true =>
      refine evPos rfl (Ev.bind (trim_ev _ (by omega)) (evBind (lower_f _ (by omega)) (evPos (by omega) ?_)))
      have e3 : wrap64 ((totalN p : Int) + ((trimS h.f1).size : Int)) = ((totalN p + totalN [h] : Nat) : Int) := by
        have : totalN [h] = (trimS h.f1).size := by simp [totalN, hsafe, hd]
        rw [this]
        unfold wrap64
        omega
      rw [e3]
      have e4 : unsafeN [h] = [] := by simp [unsafeN, lowN, hsafe, hd]
      have e5 : safeN [h] = [lowB h.f0] := by simp [safeN, lowN, hsafe, hd]
      rw [e4, e5, List.append_nil] at ih'
      exact ih'
    | false =>
      refine evNeg (by decide) (evBind (lower_f _ (by omega)) (evPos (by omega) ?_))
      have e3 : totalN [h] = 0 := by simp [totalN, hsafe, hd]
      have e4 : unsafeN [h] = [lowB h.f0] := by simp [unsafeN, lowN, hsafe, hd]
      have e5 : safeN [h] = [] := by simp [safeN, lowN, hsafe, hd]
      rw [e3, e4, e5, List.append_nil, Nat.add_zero] at ih'
      exact ih'
theorem snames_ev (l : List Hd) (hl : HOk l) : Ev (fun k => safe_Names.f k l) (snames l) := by
  have := snames_l0 l hl l [] rfl
  simpa [safe_Names.f, unsafeN, safeN, totalN, lowN] using this
theorem snames_sub (l : List Hd) : ∀ x ∈ snames l, x ∈ namesS l := by
  intro x hx
  rw [namesS_mem]
  have h1 : x ∈ unsafeN l ++ safeN l := by
    unfold snames at hx
    split at hx
    · exact (riseB_mem _ _).1 hx
    · exact List.mem_append_left _ ((riseB_mem _ _).1 hx)
  rcases List.mem_append.1 h1 with h1 | h1
  all_goals
    obtain ⟨h, hm, e⟩ := List.mem_map.1 h1
    exact ⟨h, (List.mem_filter.1 hm).1, e⟩
theorem snames_length (l : List Hd) : (snames l).length ≤ l.length := by
  have h : ∀ m : List Hd, (unsafeN m).length + (safeN m).length = m.length := by
    intro m
    simp only [unsafeN, safeN, lowN, List.length_map]
    induction m with
    | nil => rfl
    | cons a m ih =>
      cases ha : hsafe a with
      | true => simp [ha] at ih ⊢; omega
      | false => simp [ha] at ih ⊢; omega
  have h0 := h l
  unfold snames
  split
  · have := riseB_length (unsafeN l ++ safeN l)
    rw [List.length_append] at this
    omega
  · have := riseB_length (unsafeN l)
    omega
def hasLine (s : ByteArray) : Bool := decide (0 ≤ Lib.indexAny s.data.toList (⟨#[0, 10, 13]⟩ : ByteArray).data.toList)
theorem line_f (s : ByteArray) (h : s.size < 4294967281) : strings_ContainsAny.f s (⟨#[0, 10, 13]⟩ : ByteArray) = some (hasLine s) := by
  unfold strings_ContainsAny.f
  rw [if_pos ⟨by decide, by decide, h, by decide⟩]
  rfl
def isHS (f0 f1 : ByteArray) : Bool := if tokS f0 = true then (if (f0.size : Int) ≤ 64 then (if ((trimS f1).size : Int) ≤ 4096 then !hasLine (trimS f1) else false) else false) else false
theorem isHeader_ev (f0 f1 : ByteArray) (h0 : f0.size ≤ 1000000) (h1 : f1.size ≤ 1000000) : Ev (fun k => header_isHeader.f k f0 f1) (isHS f0 f1) := by
  unfold header_isHeader.f isHS
  have ht := trimS_size f1
  exact Ev.bind (trim_ev f1 (by omega)) (Ev.bind (token_ev f0 (by omega)) (evIte (fun _ => evIte (fun _ => evIte (fun _ => evBind (line_f _ (by omega)) (Ev.now _)) fun _ => Ev.now _) fun _ => Ev.now _) fun _ => Ev.now _))
def goodH (h : Hd) : Bool := isHS h.f0 h.f1
def checkS (l : List Hd) : Int := if (l.length : Int) > 32 then 4 else if l.all goodH = true then 0 else 6
theorem check_l0 (l : List Hd) (hl : HOk l) (r : List Hd) : ∀ p, p ++ r = l →
    Ev (fun k => header_Check.l0 k l (l.length : Int) (p.length : Int)) (if r.all goodH = true then 0 else 6) := by
  have h1 := hl.1
  induction r with
  | nil =>
    intro p hp
    rw [List.append_nil] at hp
    subst hp
    refine evSucc ?_
    simp only [header_Check.l0]
    exact evNeg (by omega) (Ev.now _)
  | cons h r ih =>
    intro p hp
    have hlen : l.length = p.length + (r.length + 1) := by rw [← hp]; simp
    have hh := hl.2 h (by rw [← hp]; simp)
    have hr : rd_T28 l (p.length : Int) = h := by rw [← hp]; exact rd_mid p h r
    have e2 : wrap64 ((p.length : Int) + 1) = ((p ++ [h]).length : Int) := by simp; unfold wrap64; omega
    have ih' := ih (p ++ [h]) (by simpa using hp)
    refine evSucc ?_
    simp only [header_Check.l0, hr, e2]
    refine evPos (by omega) (evPos (by omega) (evPos (by omega) (Ev.bind (isHeader_ev _ _ hh.1 hh.2) ?_)))
    rw [List.all_cons]
    cases hg : isHS h.f0 h.f1 with
    | true =>
      rw [show goodH h = true from hg, Bool.true_and]
      exact evPos rfl ih'
    | false =>
      rw [show goodH h = false from hg, Bool.false_and]
      exact evNeg (by decide) (Ev.now _)
theorem check_ev (l : List Hd) (hl : HOk l) : Ev (fun k => header_Check.f k l) (checkS l) := by
  unfold header_Check.f checkS
  refine evIte (fun _ => Ev.now _) fun _ => ?_
  have := check_l0 l hl l [] rfl
  simpa using this
theorem isBl_cases (c : UInt8) : isBl c = true ↔ ((c.toNat : Int) = 9 ∨ (c.toNat : Int) = 10 ∨ (c.toNat : Int) = 13 ∨ (c.toNat : Int) = 32) := by
  have h : ∀ d : UInt8, (c = d) ↔ ((c.toNat : Int) = (d.toNat : Int)) := fun d => ⟨fun e => by rw [e], fun e => UInt8.toNat_inj.1 (by omega)⟩
  unfold isBl
  simp only [Bool.or_eq_true, beq_iff_eq, or_assoc]
  rw [h 9, h 10, h 13, h 32]
  rfl
theorem rtrim_l1 (s : ByteArray) (hs : s.size ≤ 4611686018427387904) (p : Bs) (n : Nat) : ∀ (m q : Bs), m.length = n → s.data.toList = p ++ m ++ q →
    Ev (fun k => lockkeeperref1_Trim.l1 k s (p.length : Int) ((p.length + m.length : Nat) : Int)) (bsOf (trimR m)) := by
  induction n with
  | zero =>
    intro m q hm he
    obtain rfl := List.eq_nil_of_length_eq_zero hm
    have hl : s.size = p.length + q.length := by rw [size_len, he]; simp
    refine evSucc ?_
    simp only [lockkeeperref1_Trim.l1]
    refine evNeg (by simp) (evPos (by omega) (evPos (by simp) (evPos (by simp; omega) (evEq (Ev.now _) ?_))))
    apply ba_ext
    rw [extract_list]
    simp [bsOf_data, trimR, List.drop_take]
  | succ n ih =>
    intro m q hm he
    obtain ⟨m', c, rfl⟩ : ∃ l c, m = l ++ [c] := by
      have hne : m ≠ [] := by intro e; rw [e] at hm; simp at hm
      exact ⟨_, _, (List.dropLast_concat_getLast hne).symm⟩
    have hml : m'.length = n := by simpa using hm
    have hl : s.size = p.length + (n + 1) + q.length := by rw [size_len, he]; simp; omega
    have hb : bt s ((p.length + n : Nat) : Int) = (c.toNat : Int) := by
      have := bt_mid s (p ++ m') c q (by rw [he]; simp)
      rw [show ((p ++ m').length : Int) = ((p.length + n : Nat) : Int) by rw [List.length_append, hml]] at this
      exact this
    have e1 : ((p.length + (m' ++ [c]).length : Nat) : Int) = ((p.length + n + 1 : Nat) : Int) := by simp; omega
    have e2 : wrap64 (((p.length + n + 1 : Nat) : Int) - 1) = ((p.length + n : Nat) : Int) := by unfold wrap64; omega
    rw [e1]
    have ih' := ih m' (c :: q) hml (by rw [he]; simp)
    rw [hml] at ih'
    refine evSucc ?_
    simp only [lockkeeperref1_Trim.l1, e2, hb]
    refine evPos (by omega) (evPos (by omega) (evPos (by omega) ?_))
    cases hc : isBl c with
    | true =>
      have et : trimR (m' ++ [c]) = trimR m' := by unfold trimR; simp [hc]
      rw [et]
      have hcc := (isBl_cases c).1 hc
      by_cases h1 : (c.toNat : Int) = 9
      · exact evPos h1 ih'
      · refine evNeg h1 ?_
        by_cases h2 : (c.toNat : Int) = 10
        · exact evPos h2 ih'
        · refine evNeg h2 ?_
          by_cases h3 : (c.toNat : Int) = 13
          · exact evPos h3 ih'
          · exact evNeg h3 (evPos (by omega) ih')
    | false =>
      have hcc : ¬ ((c.toNat : Int) = 9 ∨ (c.toNat : Int) = 10 ∨ (c.toNat : Int) = 13 ∨ (c.toNat : Int) = 32) := fun h => by rw [(isBl_cases c).2 h] at hc; cases hc
      refine evNeg (by omega) (evNeg (by omega) (evNeg (by omega) (evNeg (by omega) (evPos (by omega) (evPos (by omega) (evPos (by omega) (evEq (Ev.now _) ?_)))))))
      have et : trimR (m' ++ [c]) = m' ++ [c] := by unfold trimR; simp [hc]
      rw [et]
      apply ba_ext
      rw [extract_list, bsOf_data, he]
      simp only [Int.toNat_natCast]
      have : (p ++ (m' ++ [c]) ++ q).take (p.length + n + 1) = p ++ (m' ++ [c]) := by
        rw [List.take_append_of_le_length (by simp; omega), List.take_of_length_le (by simp; omega)]
      rw [this]
      simp
theorem rtrim_l0 (s : ByteArray) (hs : s.size ≤ 4611686018427387904) (r : Bs) : ∀ p : Bs, s.data.toList = p ++ r →
    Ev (fun k => lockkeeperref1_Trim.l0 k s (p.length : Int) (s.size : Int)) (bsOf (trimL r)) := by
  have hj : ∀ p r : Bs, s.data.toList = p ++ r → Ev (fun k => lockkeeperref1_Trim.j1 k s (p.length : Int) (s.size : Int)) (bsOf (trimR r)) := by
    intro p r hp
    have hl : s.size = p.length + r.length := by rw [size_len, hp]; simp
    refine evSucc ?_
    simp only [lockkeeperref1_Trim.j1]
    have := rtrim_l1 s hs p r.length r [] rfl (by rw [hp]; simp)
    rw [← hl] at this
    exact this
  induction r with
  | nil =>
    intro p hp
    have hl : s.size = p.length := by rw [size_len, hp]; simp
    refine evSucc ?_
    simp only [lockkeeperref1_Trim.l0]
    exact evNeg (by omega) (hj p [] hp)
  | cons c r ih =>
    intro p hp
    have hl : s.size = p.length + (r.length + 1) := by rw [size_len, hp]; simp
    have hb := bt_mid s p c r hp
    have e2 : wrap64 ((p.length : Int) + 1) = ((p ++ [c]).length : Int) := by simp; unfold wrap64; omega
    have ih' := ih (p ++ [c]) (by rw [hp]; simp)
    refine evSucc ?_
    simp only [lockkeeperref1_Trim.l0, hb, e2]
    refine evPos (by omega) (evPos (by omega) (evPos (by omega) ?_))
    cases hc : isBl c with
    | true =>
      have et : trimL (c :: r) = trimL r := by unfold trimL; simp [hc]
      rw [et]
      have hcc := (isBl_cases c).1 hc
      by_cases h1 : (c.toNat : Int) = 9
      · exact evPos h1 ih'
      · refine evNeg h1 ?_
        by_cases h2 : (c.toNat : Int) = 10
        · exact evPos h2 ih'
        · refine evNeg h2 ?_
          by_cases h3 : (c.toNat : Int) = 13
          · exact evPos h3 ih'
          · exact evNeg h3 (evPos (by omega) ih')
    | false =>
      have hcc : ¬ ((c.toNat : Int) = 9 ∨ (c.toNat : Int) = 10 ∨ (c.toNat : Int) = 13 ∨ (c.toNat : Int) = 32) := fun h => by rw [(isBl_cases c).2 h] at hc; cases hc
      have et : trimL (c :: r) = trimR (c :: r) := by unfold trimL; simp [hc]
      rw [et]
      exact evNeg (by omega) (evNeg (by omega) (evNeg (by omega) (evNeg (by omega) (hj p (c :: r) hp))))
theorem rtrim_ev (s : ByteArray) (hs : s.size ≤ 4611686018427387904) : Ev (fun k => lockkeeperref1_Trim.f k s) (trimS s) := by
  have := rtrim_l0 s hs s.data.toList [] rfl
  exact this
theorem rfold_f (a b : ByteArray) (ha : a.size ≤ 9223372036854775807) (hb : b.size ≤ 9223372036854775807) : lockkeeperref1_Fold.f a b = some (foldB a b) := by
  unfold lockkeeperref1_Fold.f
  rw [rlower_f a ha, rlower_f b hb]
  simp only [Option.bind_some]
  rw [tl_beq]
  rfl
def rmarks : ByteArray := (⟨#[33, 35, 36, 37, 38, 39, 42, 43, 45, 46, 94, 95, 124, 126]⟩ : ByteArray)
def isPl (c : UInt8) : Bool := (lockkeeperref1_Plain.f (c.toNat : Int)).getD false
theorem plain_f (c : UInt8) : lockkeeperref1_Plain.f (c.toNat : Int) = some (isPl c) := by
  unfold isPl lockkeeperref1_Plain.f
  repeat' split
  all_goals rfl
theorem rtok_all : ∀ n : Fin 256, isTok (UInt8.ofNat n.val) = (isPl (UInt8.ofNat n.val) || rmarks.data.toList.contains (UInt8.ofNat n.val) || UInt8.ofNat n.val == 96) := by decide +kernel
theorem rtok_c (c : UInt8) : isTok c = (isPl c || rmarks.data.toList.contains c || c == 96) := by
  have := rtok_all ⟨c.toNat, c.toNat_lt⟩
  simpa using this
theorem rtoken_l0 (s : ByteArray) (hs : s.size ≤ 4611686018427387904) (r : Bs) : ∀ (p : Bs), s.data.toList = p ++ r →
    Ev (fun k => lockkeeperref1_Token.l0 k s (p.length : Int)) (r.all isTok && s.data.toList != []) := by
  induction r with
  | nil =>
    intro p hp
    have hl : s.size = p.length := by rw [size_len, hp]; simp
    refine evSucc ?_
    simp only [lockkeeperref1_Token.l0]
    refine evNeg (by omega) (evEq (Ev.now _) ?_)
    rw [hp, List.append_nil, List.all_nil, Bool.true_and, hl]
    cases p with
    | nil => rfl
    | cons c p => simp
  | cons c r ih =>
    intro p hp
    have hl : s.size = p.length + (r.length + 1) := by rw [size_len, hp]; simp
    have hb := bt_mid s p c r hp
    have e2 : wrap64 ((p.length : Int) + 1) = ((p ++ [c]).length : Int) := by simp; unfold wrap64; omega
    have ih' := ih (p ++ [c]) (by rw [hp]; simp)
    refine evSucc ?_
    simp only [lockkeeperref1_Token.l0, hb, e2]
    refine evPos (by omega) (evPos (by omega) (evBind (plain_f c) ?_))
    rw [List.all_cons, rtok_c c]
    cases h1 : isPl c with
    | true =>
      rw [Bool.true_or, Bool.true_or, Bool.true_and]
      exact evPos rfl ih'
    | false =>
      rw [Bool.false_or]
      refine evNeg (by decide) (Ev.bind (in_ev rmarks c (by decide)) ?_)
      cases h2 : rmarks.data.toList.contains c with
      | true =>
        rw [Bool.true_or, Bool.true_and]
        exact evPos rfl ih'
      | false =>
        rw [Bool.false_or]
        refine evNeg (by decide) ?_
        by_cases h3 : c = 96
        · subst h3
          exact evPos rfl (evEq ih' (by simp))
        · have h4 : (c == 96) = false := by simpa using h3
          rw [h4, Bool.false_and, Bool.false_and]
          refine evNeg (fun e => h3 (UInt8.toNat_inj.1 ?_)) (Ev.now _)
          have : (96 : UInt8).toNat = 96 := rfl
          omega
theorem rtoken_ev (s : ByteArray) (hs : s.size ≤ 4611686018427387904) : Ev (fun k => lockkeeperref1_Token.f k s) (tokS s) := rtoken_l0 s hs s.data.toList [] rfl
theorem joinL_snoc (sep : Bs) : ∀ (m : List Bs) (x : Bs), Lib.join (m ++ [x]) sep = if m = [] then x else Lib.join m sep ++ sep ++ x := by
  intro m
  induction m with
  | nil => intro x; simp [Lib.join, List.intercalate, List.intersperse]
  | cons a m ih =>
    intro x
    cases m with
    | nil => simp [Lib.join, List.intercalate, List.intersperse]
    | cons b m =>
      have := ih x
      simp only [Lib.join, List.intercalate, List.cons_append, List.intersperse, List.flatten_cons, List.append_assoc] at this ⊢
      simp only [reduceCtorEq, if_false] at this ⊢
      rw [this]
def normH (h : Hd) : Hd := ⟨lowB h.f0, trimS h.f1⟩
def normS (l : List Hd) : List Hd := l.map normH
theorem normS_ok {l : List Hd} (hl : HOk l) : HOk (normS l) := by
  refine ⟨by simpa [normS] using hl.1, fun x hx => ?_⟩
  obtain ⟨y, hy, rfl⟩ := List.mem_map.1 hx
  have := hl.2 y hy
  have ht := trimS_size y.f1
  exact ⟨by show (lowB y.f0).size ≤ _; rw [lowB_size]; omega, by show (trimS y.f1).size ≤ _; omega⟩
theorem norm_l0 (l : List Hd) (hl : HOk l) (r : List Hd) : ∀ p, p ++ r = l → Ev (fun k => header_Norm.l0 k (normS p) l (l.length : Int) (p.length : Int)) (normS l) := by
  have h1 := hl.1
  induction r with
  | nil =>
    intro p hp
    rw [List.append_nil] at hp
    subst hp
    refine evSucc ?_
    simp only [header_Norm.l0]
    exact evNeg (by omega) (Ev.now _)
  | cons h r ih =>
    intro p hp
    have hlen : l.length = p.length + (r.length + 1) := by rw [← hp]; simp
    have hh := hl.2 h (by rw [← hp]; simp)
    have hr : rd_T28 l (p.length : Int) = h := by rw [← hp]; exact rd_mid p h r
    have e2 : wrap64 ((p.length : Int) + 1) = ((p ++ [h]).length : Int) := by simp; unfold wrap64; omega
    refine evSucc ?_
    simp only [header_Norm.l0, hr, e2]
    refine evPos (by omega) (evPos (by omega) (evPos (by omega) (evBind (lower_f _ (by omega)) (Ev.bind (trim_ev _ (by omega)) (evPos (by simp [normS]; omega) ?_)))))
    have := ih (p ++ [h]) (by simpa using hp)
    rw [show normS (p ++ [h]) = normS p ++ [normH h] by simp [normS]] at this
    exact this
theorem norm_ev (l : List Hd) (hl : HOk l) : Ev (fun k => header_Norm.f k l) (normS l) := by
  have := norm_l0 l hl l [] rfl
  simpa [header_Norm.f, normS] using this
def lessB (a b : ByteArray) : Bool := Op.bytesLess a.toList b.toList
def insGo (x : ByteArray) : List ByteArray → List ByteArray
  | [] => [x]
  | y :: r => if lessB y x = true then y :: insGo x r else if y = x then y :: r else x :: y :: r
def risingS (l : List ByteArray) : List ByteArray := l.foldl (fun o x => insGo x o) []
theorem insGo_length (x : ByteArray) (l : List ByteArray) : (insGo x l).length ≤ l.length + 1 := by
  induction l with
  | nil => simp [insGo]
  | cons y r ih =>
    unfold insGo
    split
    · simp; omega
    · split <;> simp
theorem shift_set (A B : List ByteArray) (e x : ByteArray) : (shiftL ((A ++ B) ++ [e]) A.length).set A.length x = A ++ x :: B := by
  have h1 : ((A ++ B) ++ [e]).drop A.length = B ++ [e] := by rw [List.append_assoc, List.drop_left]
  have h2 : ((A ++ B) ++ [e]).take (A.length + 1) = A ++ (B ++ [e]).take 1 := by rw [List.append_assoc, List.take_length_add_append]
  have h3 : ((A ++ B) ++ [e]).length - (A.length + 1) = B.length := by simp; omega
  unfold shiftL
  rw [h1, h2, h3, List.take_left]
  cases B with
  | nil => rw [List.append_nil]; simp
  | cons b B =>
    rw [List.cons_append, List.take_succ_cons, List.take_zero, List.append_assoc, List.set_append_right _ _ (Nat.le_refl _), Nat.sub_self]
    rfl
theorem rising_l1 (L : List ByteArray) (hL : L.length ≤ 1000000) (i : Nat) (hi : i < L.length) (out : List ByteArray) (ho : out.length ≤ 1000000) (R : List ByteArray) (H : Ev (fun k => lockkeeperref1_Rising.l0 k L (insGo L[i] out) ((i + 1 : Nat) : Int)) R) :
    ∀ B A, A ++ B = out → insGo L[i] out = A ++ insGo L[i] B → Ev (fun k => lockkeeperref1_Rising.l1 k L out (i : Int) (A.length : Int)) R := by
  have ei : wrap64 ((i : Int) + 1) = ((i + 1 : Nat) : Int) := by unfold wrap64; omega
  intro B
  induction B with
  | nil =>
    intro A hAB hin
    have hl : out.length = A.length := by rw [← hAB]; simp
    have ea : wrap64 ((A.length : Int) + 1) = ((A.length + 1 : Nat) : Int) := by unfold wrap64; omega
    refine evSucc ?_
    simp only [lockkeeperref1_Rising.l1, ei, ea]
    rw [rdOf_get _ _ hi]
    refine evNeg (by omega) (evPos (by omega) (evBind rfl ?_))
    have h1 : (out ++ [(⟨#[]⟩ : ByteArray)]).length = A.length + 1 := by simp; omega
    refine evPos (by omega) (evPos (by omega) (evPos (by omega) (evPos (by omega) (evPos (by omega) (evPos (by omega) (evPos (by omega) ?_))))))
    rw [Int.toNat_natCast, ← hAB, shift_set]
    rw [hin] at H
    exact H
  | cons y B ih =>
    intro A hAB hin
    have hl : out.length = A.length + (B.length + 1) := by rw [← hAB]; simp
    have ea : wrap64 ((A.length : Int) + 1) = ((A.length + 1 : Nat) : Int) := by unfold wrap64; omega
    have hy : rdOf ByteArray.empty out (A.length : Int) = y := by rw [← hAB]; simp [rdOf, List.getD_eq_getElem?_getD]
    refine evSucc ?_
    simp only [lockkeeperref1_Rising.l1, ei, ea]
    rw [rdOf_get _ _ hi, hy]
    refine evPos (by omega) (evPos (by omega) (evPos (by omega) (evPos (by omega) ?_)))
    cases hless : lessB y L[i] with
    | true =>
      refine evPos hless ?_
      have := ih (A ++ [y]) (by rw [← hAB]; simp) (by rw [hin, insGo, if_pos hless]; simp)
      simpa using this
    | false =>
      refine evNeg (fun h => by rw [show Op.bytesLess y.toList L[i].toList = lessB y L[i] from rfl, hless] at h; cases h) ?_
      by_cases he : y = L[i]
      · refine evPos (by rw [he]) ?_
        rw [hin, insGo, if_neg (by rw [hless]; decide), if_pos he, hAB] at H
        exact H
      · refine evNeg (fun h => he ((tl_eq _ _).1 h)) (evPos (by omega) (evBind rfl ?_))
        have h1 : (out ++ [(⟨#[]⟩ : ByteArray)]).length = A.length + (B.length + 1) + 1 := by simp; omega
        refine evPos (by omega) (evPos (by omega) (evPos (by omega) (evPos (by omega) ?_)))
        rw [Int.toNat_natCast, ← hAB, shift_set]
        rw [hin, insGo, if_neg (by rw [hless]; decide), if_neg he] at H
        exact H
theorem risingS_snoc (l : List ByteArray) (x : ByteArray) : risingS (l ++ [x]) = insGo x (risingS l) := by simp [risingS]
theorem risingS_length (l : List ByteArray) : (risingS l).length ≤ l.length := by
  have : ∀ (l o : List ByteArray), (l.foldl (fun o x => insGo x o) o).length ≤ o.length + l.length := by
    intro l
    induction l with
    | nil => intro o; simp
    | cons a l ih =>
      intro o
      have h1 := ih (insGo a o)
      have h2 := insGo_length a o
      simp only [List.foldl_cons, List.length_cons]
      omega
  simpa [risingS] using this l []
theorem rising_l0 (L : List ByteArray) (hL : L.length ≤ 1000000) : ∀ n i, i + n = L.length → Ev (fun k => lockkeeperref1_Rising.l0 k L (risingS (L.take i)) (i : Int)) (risingS L) := by
  intro n
  induction n with
  | zero =>
    intro i hi
    rw [List.take_of_length_le (by omega)]
    refine evSucc ?_
    simp only [lockkeeperref1_Rising.l0]
    exact evNeg (by omega) (Ev.now _)
  | succ n ih =>
    intro i hi
    have hlt : i < L.length := by omega
    have ih' := ih (i + 1) (by omega)
    rw [List.take_succ_eq_append_getElem hlt, risingS_snoc] at ih'
    have hr := risingS_length (L.take i)
    rw [List.length_take] at hr
    refine evSucc ?_
    simp only [lockkeeperref1_Rising.l0]
    refine evPos (by omega) ?_
    exact rising_l1 L hL i hlt (risingS (L.take i)) (by omega) _ ih' (risingS (L.take i)) [] rfl rfl
theorem insGo_mem (x : ByteArray) (l : List ByteArray) (z : ByteArray) : z ∈ insGo x l ↔ z = x ∨ z ∈ l := by
  induction l with
  | nil => simp [insGo]
  | cons y r ih =>
    unfold insGo
    split
    · simp only [List.mem_cons, ih]
      constructor
      · rintro (h | h | h)
        · exact .inr (.inl h)
        · exact .inl h
        · exact .inr (.inr h)
      · rintro (h | h | h)
        · exact .inr (.inl h)
        · exact .inl h
        · exact .inr (.inr h)
    · split
      · rename_i e
        subst e
        simp only [List.mem_cons]
        constructor
        · exact .inr
        · rintro (h | h)
          · exact .inl h
          · exact h
      · simp only [List.mem_cons]
theorem lessB_iff (a b : ByteArray) : lessB a b = true ↔ a.data.toList < b.data.toList := by
  unfold lessB
  rw [bytesLess_eq, decide_eq_true_iff, tl, tl]
theorem insGo_rises (x : ByteArray) (l : List ByteArray) (h : Rises (lists l)) : Rises (lists (insGo x l)) := by
  induction l with
  | nil => simp [insGo, lists, Rises]
  | cons y r ih =>
    have h' := List.pairwise_cons.1 h
    unfold insGo
    split
    · rename_i hl
      refine List.pairwise_cons.2 ⟨fun z hz => ?_, ih h'.2⟩
      obtain ⟨w, hw, rfl⟩ := List.mem_map.1 hz
      rcases (insGo_mem x r w).1 hw with rfl | hw
      · exact (lessB_iff _ _).1 hl
      · exact h'.1 _ (List.mem_map.2 ⟨w, hw, rfl⟩)
    · rename_i hl
      split
      · exact h
      · rename_i hne
        have hlt : x.data.toList < y.data.toList := by
          have h1 : ¬ y.data.toList < x.data.toList := fun h => hl ((lessB_iff _ _).2 h)
          exact bs_lt_of (List.not_lt.1 h1) (fun e => hne (ba_ext e))
        refine List.pairwise_cons.2 ⟨fun z hz => ?_, h⟩
        rcases List.mem_cons.1 hz with rfl | hz
        · exact hlt
        · exact bs_lt_trans hlt (h'.1 _ hz)
theorem risingS_rise (l : List ByteArray) : risingS l = riseB l := by
  have key : ∀ (l o : List ByteArray), Rises (lists o) → Rises (lists (l.foldl (fun o x => insGo x o) o)) ∧ ∀ z, z ∈ l.foldl (fun o x => insGo x o) o ↔ z ∈ l ∨ z ∈ o := by
    intro l
    induction l with
    | nil => intro o ho; exact ⟨ho, fun z => by simp⟩
    | cons a l ih =>
      intro o ho
      obtain ⟨h1, h2⟩ := ih (insGo a o) (insGo_rises a o ho)
      refine ⟨h1, fun z => ?_⟩
      rw [List.foldl_cons, h2, insGo_mem, List.mem_cons]
      constructor
      · rintro (h | h | h)
        · exact .inl (.inr h)
        · exact .inl (.inl h)
        · exact .inr h
      · rintro ((h | h) | h)
        · exact .inr (.inl h)
        · exact .inl h
        · exact .inr (.inr h)
  obtain ⟨h1, h2⟩ := key l [] (by simp [lists, Rises])
  apply lists_inj
  rw [lists_rise]
  refine rises_eq h1 (riseL_rises _) fun z => ?_
  rw [riseL_mem]
  constructor
  · intro hz
    obtain ⟨w, hw, rfl⟩ := List.mem_map.1 hz
    have := (h2 w).1 hw
    exact List.mem_map.2 ⟨w, this.resolve_right (by simp), rfl⟩
  · intro hz
    obtain ⟨w, hw, rfl⟩ := List.mem_map.1 hz
    exact List.mem_map.2 ⟨w, (h2 w).2 (.inl hw), rfl⟩
theorem rising_ev (l : List ByteArray) (h : l.length ≤ 1000000) : Ev (fun k => lockkeeperref1_Rising.f k l) (riseB l) := by
  rw [← risingS_rise]
  exact rising_l0 l h l.length 0 (by omega)
theorem rdT_get (l : List Hd) (i : Nat) (h : i < l.length) : rd_T28 l (i : Int) = l[i] := by
  simp [rd_T28, List.getD_eq_getElem?_getD, h]
theorem rnorm_l0 (l : List Hd) (hl : HOk l) : ∀ n i, i + n = l.length → Ev (fun k => lockkeeperref6_Norm.l0 k l (normS (l.take i)) (i : Int)) (normS l) := by
  have h1 := hl.1
  intro n
  induction n with
  | zero =>
    intro i hi
    rw [List.take_of_length_le (by omega)]
    refine evSucc ?_
    simp only [lockkeeperref6_Norm.l0]
    exact evNeg (by omega) (Ev.now _)
  | succ n ih =>
    intro i hi
    have hlt : i < l.length := by omega
    have hh := hl.2 _ (List.getElem_mem hlt)
    have e2 : wrap64 ((i : Int) + 1) = ((i + 1 : Nat) : Int) := by unfold wrap64; omega
    have ih' := ih (i + 1) (by omega)
    have e3 : normS (l.take (i + 1)) = normS (l.take i) ++ [normH l[i]] := by
      unfold normS
      rw [List.take_succ_eq_append_getElem hlt, List.map_append]
      rfl
    rw [e3] at ih'
    have hlen : (normS (l.take i)).length ≤ l.length := by simp [normS]; omega
    refine evSucc ?_
    simp only [lockkeeperref6_Norm.l0, e2]
    rw [rdT_get _ _ hlt]
    exact evPos (by omega) (evPos (by omega) (evBind (rlower_f _ (by omega)) (Ev.bind (rtrim_ev _ (by omega)) (evPos (by omega) ih'))))
theorem rnorm_ev (l : List Hd) (hl : HOk l) : Ev (fun k => lockkeeperref6_Norm.f k l) (normS l) := rnorm_l0 l hl l.length 0 (by omega)
theorem hasLine_eq (s : ByteArray) : hasLine s = (s.data.toList.contains 0 || s.data.toList.contains 10 || s.data.toList.contains 13) := by
  unfold hasLine
  have : ∀ l : Bs, decide (0 ≤ Lib.indexAny l [0, 10, 13]) = (l.contains 0 || l.contains 10 || l.contains 13) := by
    intro l
    rw [Bool.eq_iff_iff, decide_eq_true_iff]
    constructor
    · intro h
      rcases Classical.em ((l.contains 0 || l.contains 10 || l.contains 13) = true) with h' | h'
      · exact h'
      · exfalso
        have hn : Lib.NoAny l [0, 10, 13] l.length := by
          intro j x hj hx
          have hm : x ∈ l := List.mem_of_getElem? hx
          simp only [Bool.or_eq_true, List.contains_iff_mem, not_or] at h'
          simp only [List.contains_cons, List.contains_nil, Bool.or_false, Bool.or_eq_false_iff, beq_eq_false_iff_ne, ne_eq]
          refine ⟨?_, ?_, ?_⟩
          · rintro rfl; exact h'.1.1 hm
          · rintro rfl; exact h'.1.2 hm
          · rintro rfl; exact h'.2 hm
        rw [Lib.indexAny_none hn] at h
        omega
    · intro h
      have hge := Lib.indexAny_ge [0, 10, 13] l
      rcases Classical.em (Lib.indexAny l [0, 10, 13] = -1) with e | e
      · exfalso
        have hno : ∀ c : UInt8, ([0, 10, 13] : Bs).contains c = true → c ∈ l → False := by
          intro c hc hm
          have key : ∀ (m : Bs), c ∈ m → Lib.indexAny m [0, 10, 13] ≠ -1 := by
            intro m
            induction m with
            | nil => intro h; cases h
            | cons b m ih =>
              intro hm he
              rcases List.mem_cons.1 hm with rfl | hm
              · have := Lib.indexAny_hit (s := c :: m) (chars := [0, 10, 13]) (i := 0) (x := c) (by intro j x hj; omega) rfl hc
                rw [this] at he
                simp at he
              · have hg := Lib.indexAny_ge [0, 10, 13] m
                have hm' := ih hm
                unfold Lib.indexAny at he
                split at he
                · simp at he
                · split at he
                  · rename_i h1; simp at h1; exact hm' h1
                  · omega
          exact key l hm e
        simp only [Bool.or_eq_true, List.contains_iff_mem] at h
        rcases h with (h | h) | h
        · exact hno 0 (by decide) h
        · exact hno 10 (by decide) h
        · exact hno 13 (by decide) h
      · omega
  exact this _
theorem rcheck_l0 (l : List Hd) (hl : HOk l) : ∀ n i, i + n = l.length → Ev (fun k => lockkeeperref6_Check.l0 k l (i : Int)) (if (l.drop i).all goodH = true then 0 else 6) := by
  have h1 := hl.1
  intro n
  induction n with
  | zero =>
    intro i hi
    rw [List.drop_of_length_le (by omega)]
    refine evSucc ?_
    simp only [lockkeeperref6_Check.l0]
    exact evNeg (by omega) (Ev.now _)
  | succ n ih =>
    intro i hi
    have hlt : i < l.length := by omega
    have hh := hl.2 _ (List.getElem_mem hlt)
    have e2 : wrap64 ((i : Int) + 1) = ((i + 1 : Nat) : Int) := by unfold wrap64; omega
    have ht := trimS_size l[i].f1
    rw [List.drop_eq_getElem_cons hlt, List.all_cons]
    have hg : goodH l[i] = isHS l[i].f0 l[i].f1 := rfl
    rw [hg]
    unfold isHS
    rw [hasLine_eq]
    refine evSucc ?_
    simp only [lockkeeperref6_Check.l0, e2]
    rw [rdT_get _ _ hlt]
    refine evPos (by omega) (evPos (by omega) (Ev.bind (rtrim_ev _ (by omega)) ?_))
    by_cases c1 : (l[i].f0.size : Int) > 64
    · refine evPos c1 (evEq (Ev.now _) ?_)
      rw [if_neg (show ¬ (l[i].f0.size : Int) ≤ 64 by omega)]
      simp
    · refine evNeg c1 (Ev.bind (rtoken_ev _ (by omega)) ?_)
      rw [if_pos (show (l[i].f0.size : Int) ≤ 64 by omega)]
      cases c2 : tokS l[i].f0 with
      | false => exact evNeg (by decide) (evEq (Ev.now _) (by simp))
      | true =>
        refine evPos rfl ?_
        rw [if_pos rfl]
        by_cases c3 : ((trimS l[i].f1).size : Int) > 4096
        · refine evPos c3 (evEq (Ev.now _) ?_)
          rw [if_neg (show ¬ ((trimS l[i].f1).size : Int) ≤ 4096 by omega)]
          simp
        · rw [if_pos (show ((trimS l[i].f1).size : Int) ≤ 4096 by omega)]
          refine evNeg c3 (Ev.bind (in_ev (trimS l[i].f1) 0 (by omega)) ?_)
          cases (trimS l[i].f1).data.toList.contains 0 with
          | true => exact evPos rfl (evEq (Ev.now _) (by simp))
          | false =>
            refine evNeg (by decide) (Ev.bind (in_ev (trimS l[i].f1) 10 (by omega)) ?_)
            cases (trimS l[i].f1).data.toList.contains 10 with
            | true => exact evPos rfl (evEq (Ev.now _) (by simp))
            | false =>
              refine evNeg (by decide) (Ev.bind (in_ev (trimS l[i].f1) 13 (by omega)) ?_)
              cases (trimS l[i].f1).data.toList.contains 13 with
              | true => exact evPos rfl (evEq (Ev.now _) (by simp))
              | false => exact evNeg (by decide) (evEq (ih (i + 1) (by omega)) (by simp))
theorem rcheck_ev (l : List Hd) (hl : HOk l) : Ev (fun k => lockkeeperref6_Check.f k l) (checkS l) := by
  unfold lockkeeperref6_Check.f checkS
  exact evIte (fun _ => Ev.now _) fun _ => rcheck_l0 l hl l.length 0 (by omega)
def byteB (c : UInt8) : Bool := (safe_Byte.f (c.toNat : Int)).getD false
def wordB (c : UInt8) : Bool := (safe_word.f (c.toNat : Int)).getD false
def sBad : ByteArray := (⟨#[34, 40, 41, 58, 60, 62, 63, 64, 91, 92, 93, 123, 125]⟩ : ByteArray)
def sGood : ByteArray := (⟨#[32, 42, 44, 45, 46, 59, 61]⟩ : ByteArray)
def rbyteB (c : UInt8) : Bool := if (c.toNat : Int) = 9 then true else if (c.toNat : Int) ≥ 32 then (if (c.toNat : Int) = 127 then false else !(sBad.data.toList.contains c)) else false
theorem rbyte_all : ∀ n : Fin 256, rbyteB (UInt8.ofNat n.val) = byteB (UInt8.ofNat n.val) := by decide +kernel
theorem rbyte_eq (c : UInt8) : rbyteB c = byteB c := by
  have := rbyte_all ⟨c.toNat, c.toNat_lt⟩
  simpa using this
theorem rbyte_ev (c : UInt8) : Ev (fun k => lockkeeperref7_Byte.f k (c.toNat : Int)) (byteB c) := by
  rw [← rbyte_eq]
  unfold lockkeeperref7_Byte.f rbyteB
  exact evIte (fun _ => Ev.now _) fun _ => evIte (fun _ => evIte (fun _ => Ev.now _) fun _ => Ev.bind (in_ev sBad c (by decide)) (Ev.now _)) fun _ => Ev.now _
theorem rword_all : ∀ n : Fin 256, (isPl (UInt8.ofNat n.val) || sGood.data.toList.contains (UInt8.ofNat n.val)) = wordB (UInt8.ofNat n.val) := by decide +kernel
theorem rword_eq (c : UInt8) : (isPl c || sGood.data.toList.contains c) = wordB c := by
  have := rword_all ⟨c.toNat, c.toNat_lt⟩
  simpa using this
theorem allByte_eq (s : ByteArray) : allByte s = s.data.toList.all byteB := by
  unfold allByte bytesOf
  rw [List.all_map]
  rfl
theorem allWord_eq (s : ByteArray) : allWord s = s.data.toList.all wordB := by
  unfold allWord bytesOf
  rw [List.all_map]
  rfl
theorem each_l0 (s : ByteArray) (hs : s.size ≤ 4611686018427387904) (x : Bool) (r : Bs) : ∀ p : Bs, s.data.toList = p ++ r →
    Ev (fun k => lockkeeperref7_each.l0 k s x (p.length : Int)) (if x = true then r.all wordB else r.all byteB) := by
  induction r with
  | nil =>
    intro p hp
    have hl : s.size = p.length := by rw [size_len, hp]; simp
    refine evSucc ?_
    simp only [lockkeeperref7_each.l0]
    exact evNeg (by omega) (evEq (Ev.now _) (by cases x <;> rfl))
  | cons c r ih =>
    intro p hp
    have hl : s.size = p.length + (r.length + 1) := by rw [size_len, hp]; simp
    have hb := bt_mid s p c r hp
    have e1 : wrap64 ((p.length : Int) + 1) = ((p ++ [c]).length : Int) := by simp; unfold wrap64; omega
    have ih' := ih (p ++ [c]) (by rw [hp]; simp)
    refine evSucc ?_
    simp only [lockkeeperref7_each.l0, hb, e1]
    refine evPos (by omega) ?_
    cases x with
    | true =>
      refine evPos rfl (evPos (by omega) (evBind (plain_f c) ?_))
      simp only [if_true] at ih' ⊢
      rw [List.all_cons, ← rword_eq]
      cases hp1 : isPl c with
      | true => exact evPos rfl (by simpa using ih')
      | false =>
        refine evNeg (by decide) (Ev.bind (in_ev sGood c (by decide)) ?_)
        cases hc : sGood.data.toList.contains c with
        | true => exact evPos rfl (by simpa using ih')
        | false => exact evNeg (by decide) (evEq (Ev.now _) (by simp))
    | false =>
      refine evNeg (by decide) (evPos (by omega) (Ev.bind (rbyte_ev c) ?_))
      simp only [Bool.false_eq_true, if_false] at ih' ⊢
      rw [List.all_cons]
      cases hc : byteB c with
      | true => exact evPos rfl (by simpa using ih')
      | false => exact evNeg (by decide) (evEq (Ev.now _) (by simp))
theorem eachW_ev (s : ByteArray) (hs : s.size ≤ 4611686018427387904) : Ev (fun k => lockkeeperref7_each.f k s true) (allWord s) := by
  have := each_l0 s hs true s.data.toList [] rfl
  rw [if_pos rfl, ← allWord_eq] at this
  exact this
theorem eachB_ev (s : ByteArray) (hs : s.size ≤ 4611686018427387904) : Ev (fun k => lockkeeperref7_each.f k s false) (allByte s) := by
  have := each_l0 s hs false s.data.toList [] rfl
  rw [if_neg (by decide), ← allByte_eq] at this
  exact this
theorem ext_pre (s : ByteArray) (p r : Bs) (hp : s.data.toList = p ++ r) : s.extract 0 ((p.length : Int)).toNat = bsOf p := by
  apply ba_ext
  rw [extract_list, bsOf_data, Int.toNat_natCast, hp]
  simp
theorem ext_post (s : ByteArray) (p r : Bs) (c : UInt8) (hp : s.data.toList = p ++ c :: r) : s.extract (((p ++ [c]).length : Int)).toNat s.size = bsOf r := by
  have hl : s.size = p.length + (r.length + 1) := by rw [size_len, hp]; simp
  apply ba_ext
  rw [extract_list, bsOf_data, Int.toNat_natCast, hl, hp]
  simp [List.take_append, List.drop_append]
def essT (t : ByteArray) : ByteArray × Bool :=
  if (cutS t (⟨#[47]⟩ : ByteArray)).2.2 = true then (if tokS (cutS t (⟨#[47]⟩ : ByteArray)).1 = true then (if tokS (cutS t (⟨#[47]⟩ : ByteArray)).2.1 = true then (lowB t, true) else (⟨#[]⟩, false)) else (⟨#[]⟩, false)) else (⟨#[]⟩, false)
theorem ess_l1 (t : ByteArray) (ht : t.size ≤ 4611686018427387904) (r : Bs) : ∀ p : Bs, t.data.toList = p ++ r → 47 ∉ p → Ev (fun k => lockkeeperref7_Essence.l1 k t (p.length : Int)) (essT t) := by
  induction r with
  | nil =>
    intro p hp h47
    have hl : t.size = p.length := by rw [size_len, hp]; simp
    rw [List.append_nil] at hp
    refine evSucc ?_
    simp only [lockkeeperref7_Essence.l1]
    refine evNeg (by omega) (evSucc ?_)
    simp only [lockkeeperref7_Essence.j3]
    refine evPos (by omega) (evEq (Ev.now _) ?_)
    unfold essT
    rw [cutS_not t 47 (by rw [hp]; exact h47)]
    rfl
  | cons c r ih =>
    intro p hp h47
    have hl : t.size = p.length + (r.length + 1) := by rw [size_len, hp]; simp
    have hb := bt_mid t p c r hp
    have e1 : wrap64 ((p.length : Int) + 1) = ((p ++ [c]).length : Int) := by simp; unfold wrap64; omega
    refine evSucc ?_
    simp only [lockkeeperref7_Essence.l1, hb, e1]
    refine evPos (by omega) (evPos (by omega) ?_)
    by_cases hc : c = 47
    · subst hc
      have zp : (bsOf p).size = p.length := size_bsOf p
      have zr : (bsOf r).size = r.length := size_bsOf r
      have zl : (p ++ [(47 : UInt8)]).length = p.length + 1 := by simp
      refine evPos rfl (evSucc ?_)
      simp only [lockkeeperref7_Essence.j3, e1]
      rw [ext_pre t p (47 :: r) hp, ext_post t p r 47 hp]
      unfold essT
      rw [cutS_at t p r 47 hp h47, if_pos rfl]
      dsimp only
      refine evNeg (by omega) (evPos (by omega) (evPos (by omega) (Ev.bind (rtoken_ev _ (by omega)) (evIte (fun _ => evPos (by omega) (evPos (by omega) (Ev.bind (rtoken_ev _ (by omega)) (evIte (fun _ => evBind (rlower_f t (by omega)) (Ev.now _)) fun _ => Ev.now _)))) fun _ => Ev.now _))))
    · have hn : ¬ (c.toNat : Int) = 47 := fun e => hc (UInt8.toNat_inj.1 (by have : (47 : UInt8).toNat = 47 := rfl; omega))
      exact evNeg hn (ih (p ++ [c]) (by rw [hp]; simp) (by
        intro hm
        rcases List.mem_append.1 hm with hm | hm
        · exact h47 hm
        · exact hc (List.mem_singleton.1 hm).symm))
theorem ess_j1 (s : ByteArray) (hs : s.size ≤ 4611686018427387904) (p r : Bs) (hp : s.data.toList = p ++ r) : Ev (fun k => lockkeeperref7_Essence.j1 k s (p.length : Int)) (essT (trimS (bsOf p))) := by
  have hl : s.size = p.length + r.length := by rw [size_len, hp]; simp
  have zp : (bsOf p).size = p.length := size_bsOf p
  have zt := trimS_size (bsOf p)
  refine evSucc ?_
  simp only [lockkeeperref7_Essence.j1]
  rw [ext_pre s p r hp]
  exact evPos (by omega) (evPos (by omega) (Ev.bind (rtrim_ev _ (by omega)) (ess_l1 _ (by omega) _ [] rfl (by simp))))
theorem ess_l0 (s : ByteArray) (hs : s.size ≤ 4611686018427387904) (r : Bs) : ∀ p : Bs, s.data.toList = p ++ r → 59 ∉ p → Ev (fun k => lockkeeperref7_Essence.l0 k s (p.length : Int)) (essS s) := by
  induction r with
  | nil =>
    intro p hp h59
    have hl : s.size = p.length := by rw [size_len, hp]; simp
    refine evSucc ?_
    simp only [lockkeeperref7_Essence.l0]
    refine evNeg (by omega) (evEq (ess_j1 s hs p [] hp) ?_)
    rw [List.append_nil] at hp
    unfold essS
    rw [cutS_not s 59 (by rw [hp]; exact h59), ← hp, bsOf_of]
    rfl
  | cons c r ih =>
    intro p hp h59
    have hl : s.size = p.length + (r.length + 1) := by rw [size_len, hp]; simp
    have hb := bt_mid s p c r hp
    have e1 : wrap64 ((p.length : Int) + 1) = ((p ++ [c]).length : Int) := by simp; unfold wrap64; omega
    refine evSucc ?_
    simp only [lockkeeperref7_Essence.l0, hb, e1]
    refine evPos (by omega) (evPos (by omega) ?_)
    by_cases hc : c = 59
    · subst hc
      refine evPos rfl (evEq (ess_j1 s hs p (59 :: r) hp) ?_)
      unfold essS
      rw [cutS_at s p r 59 hp h59]
      rfl
    · have hn : ¬ (c.toNat : Int) = 59 := fun e => hc (UInt8.toNat_inj.1 (by have : (59 : UInt8).toNat = 59 := rfl; omega))
      exact evNeg hn (ih (p ++ [c]) (by rw [hp]; simp) (by
        intro hm
        rcases List.mem_append.1 hm with hm | hm
        · exact h59 hm
        · exact hc (List.mem_singleton.1 hm).symm))
theorem ress_ev (s : ByteArray) (hs : s.size ≤ 4611686018427387904) : Ev (fun k => lockkeeperref7_Essence.f k s) (essS s) := ess_l0 s hs s.data.toList [] rfl (by simp)
def rT (t : ByteArray) : Bool :=
  if (cutS t (⟨#[45]⟩ : ByteArray)).2.2 = true then (if (digS (cutS t (⟨#[45]⟩ : ByteArray)).1).2 = true then
    (if (cutS t (⟨#[45]⟩ : ByteArray)).2.1.toList = ([] : List UInt8) then true else if (digS (cutS t (⟨#[45]⟩ : ByteArray)).2.1).2 = true then decide ((digS (cutS t (⟨#[45]⟩ : ByteArray)).2.1).1 ≥ (digS (cutS t (⟨#[45]⟩ : ByteArray)).1).1) else false)
    else false) else false
theorem range_l0 (t : ByteArray) (ht : t.size ≤ 4611686018427387904) (r : Bs) : ∀ p : Bs, t.data.toList = p ++ r → 45 ∉ p → Ev (fun k => lockkeeperref7_Range.l0 k t (p.length : Int)) (rT t) := by
  induction r with
  | nil =>
    intro p hp h45
    have hl : t.size = p.length := by rw [size_len, hp]; simp
    rw [List.append_nil] at hp
    refine evSucc ?_
    simp only [lockkeeperref7_Range.l0]
    refine evNeg (by omega) (evSucc ?_)
    simp only [lockkeeperref7_Range.j2]
    refine evPos (by omega) (evEq (Ev.now _) ?_)
    unfold rT
    rw [cutS_not t 45 (by rw [hp]; exact h45)]
    rfl
  | cons c r ih =>
    intro p hp h45
    have hl : t.size = p.length + (r.length + 1) := by rw [size_len, hp]; simp
    have hb := bt_mid t p c r hp
    have e1 : wrap64 ((p.length : Int) + 1) = ((p ++ [c]).length : Int) := by simp; unfold wrap64; omega
    refine evSucc ?_
    simp only [lockkeeperref7_Range.l0, hb, e1]
    refine evPos (by omega) (evPos (by omega) ?_)
    by_cases hc : c = 45
    · subst hc
      have zp : (bsOf p).size = p.length := size_bsOf p
      have zr : (bsOf r).size = r.length := size_bsOf r
      have zl : (p ++ [(45 : UInt8)]).length = p.length + 1 := by simp
      refine evPos rfl (evSucc ?_)
      simp only [lockkeeperref7_Range.j2, e1]
      rw [ext_pre t p (45 :: r) hp, ext_post t p r 45 hp]
      unfold rT
      rw [cutS_at t p r 45 hp h45, if_pos rfl]
      dsimp only
      refine evNeg (by omega) (evPos (by omega) (evPos (by omega) (Ev.bind (rdig_ev _ (by omega)) (evIte (fun _ => ?_) fun _ => Ev.now _))))
      by_cases hr : r = []
      · subst hr
        rw [if_pos (by rw [tl]; rfl)]
        exact evPos (by simp at hl; omega) (Ev.now _)
      · have hlen : 0 < r.length := by cases r with
          | nil => exact absurd rfl hr
          | cons => simp
        rw [if_neg (by rw [tl, bsOf_data]; exact hr)]
        exact evNeg (by omega) (evPos (by omega) (evPos (by omega) (Ev.bind (rdig_ev _ (by omega)) (evIte (fun _ => Ev.now _) fun _ => Ev.now _))))
    · have hn : ¬ (c.toNat : Int) = 45 := fun e => hc (UInt8.toNat_inj.1 (by have : (45 : UInt8).toNat = 45 := rfl; omega))
      exact evNeg hn (ih (p ++ [c]) (by rw [hp]; simp) (by
        intro hm
        rcases List.mem_append.1 hm with hm | hm
        · exact h45 hm
        · exact hc (List.mem_singleton.1 hm).symm))
theorem rrange_ev (s : ByteArray) (hs : s.size ≤ 4611686018427387904) : Ev (fun k => lockkeeperref7_Range.f k s) (rangeS s) := by
  have hl := size_len s
  have jt : Ev (fun k => lockkeeperref7_Range.j0 k s true) false := by
    refine evSucc ?_
    simp only [lockkeeperref7_Range.j0, if_true]
    exact Ev.now _
  have e1 : (s.extract 0 6).toList = s.data.toList.take 6 := by rw [tl, extract_list]; rfl
  have e2 : s.extract 6 s.size = bsOf (s.data.toList.drop 6) := by
    apply ba_ext
    rw [extract_list, size_len, List.take_length]
    rfl
  unfold lockkeeperref7_Range.f
  by_cases h6 : (s.size : Int) < 6
  · have hn : ¬ s.data.toList.take 6 = ([98, 121, 116, 101, 115, 61] : List UInt8) := by
      intro e
      have := congrArg List.length e
      rw [List.length_take] at this
      simp at this
      omega
    refine evPos h6 (evEq jt ?_)
    unfold rangeS preS
    rw [if_neg hn]
    rfl
  · refine evNeg h6 (evPos (by omega) (evPos (by omega) ?_))
    rw [e1]
    by_cases hy : s.data.toList.take 6 = ([98, 121, 116, 101, 115, 61] : List UInt8)
    · rw [hy, show (([98, 121, 116, 101, 115, 61] : List UInt8) != ([98, 121, 116, 101, 115, 61] : List UInt8)) = false by decide]
      refine evSucc ?_
      simp only [lockkeeperref7_Range.j0, Bool.false_eq_true, if_false]
      rw [e2]
      have zd : (bsOf (s.data.toList.drop 6)).size ≤ s.size := by rw [size_bsOf, List.length_drop]; omega
      refine evPos (by omega) (evEq (range_l0 (bsOf (s.data.toList.drop 6)) (by omega) _ [] rfl (by simp)) ?_)
      unfold rangeS preS rT
      rw [if_pos hy]
      rfl
    · rw [show (s.data.toList.take 6 != ([98, 121, 116, 101, 115, 61] : List UInt8)) = true by rw [bne_iff_ne]; exact hy]
      refine evEq jt ?_
      unfold rangeS preS
      rw [if_neg hy]
      rfl
theorem rheader_j0 (t n : ByteArray) (ht : t.size ≤ 4611686018427387904) (x : Bool) : Ev (fun k => lockkeeperref7_Header.j0 k t n x) (jointS t n x) := by
  refine evSucc ?_
  simp only [lockkeeperref7_Header.j0]
  unfold jointS
  refine evIte (fun _ => Ev.bind (eachW_ev t ht) (Ev.now _)) fun _ => evIte (fun _ => Ev.bind (ress_ev t ht) (Ev.bind (eachB_ev t ht) (evIte (fun _ => ?_) fun _ => Ev.now _))) fun _ => evIte (fun _ => Ev.bind (rrange_ev t ht) (Ev.now _)) fun _ => Ev.now _
  unfold formS
  exact evIte (fun _ => Ev.now _) fun _ => evIte (fun _ => Ev.now _) fun _ => Ev.now _
theorem rheader_ev (f0 f1 : ByteArray) (h0 : f0.size ≤ 1000000) (h1 : f1.size ≤ 1000000) : Ev (fun k => lockkeeperref7_Header.f k f0 f1) (safeS f0 f1) := by
  unfold lockkeeperref7_Header.f safeS
  have ht := trimS_size f1
  refine Ev.bind (rtrim_ev f1 (by omega)) (evIte (fun _ => Ev.now _) fun _ => evBind (rlower_f f0 (by omega)) ?_)
  exact evIte (fun _ => Ev.bind (eachB_ev _ (by omega)) (Ev.now _)) fun _ => evIte (fun _ => rheader_j0 _ _ (by omega) _) fun _ => rheader_j0 _ _ (by omega) _
theorem lowN_append (l m : List Hd) : lowN (l ++ m) = lowN l ++ lowN m := by simp [lowN]
theorem lowN_length (l : List Hd) : (lowN l).length = l.length := by simp [lowN]
theorem r7names_l0 (l : List Hd) (hl : HOk l) (r : List Hd) : ∀ p, p ++ r = l →
    Ev (fun k => lockkeeperref7_Names.l0 k l (unsafeN p) (lowN p) (totalN p : Int) (p.length : Int)) (snames l) := by
  have h1 := hl.1
  induction r with
  | nil =>
    intro p hp
    rw [List.append_nil] at hp
    subst hp
    have hu := unsafeN_length p
    have hn := lowN_length p
    refine evSucc ?_
    simp only [lockkeeperref7_Names.l0]
    refine evNeg (by omega) ?_
    unfold snames
    have e : riseB (lowN p) = riseB (unsafeN p ++ safeN p) := by
      refine riseB_congr fun x => ?_
      unfold unsafeN safeN lowN
      rw [List.mem_append, List.mem_map, List.mem_map, List.mem_map]
      constructor
      · rintro ⟨h, hh, rfl⟩
        by_cases hs : hsafe h = true
        · exact .inr ⟨h, List.mem_filter.2 ⟨hh, hs⟩, rfl⟩
        · exact .inl ⟨h, List.mem_filter.2 ⟨hh, by simpa using hs⟩, rfl⟩
      · rintro (⟨h, hh, rfl⟩ | ⟨h, hh, rfl⟩)
        · exact ⟨h, (List.mem_filter.1 hh).1, rfl⟩
        · exact ⟨h, (List.mem_filter.1 hh).1, rfl⟩
    rw [← e]
    exact evIte (fun _ => Ev.bind (rising_ev _ (by omega)) (Ev.now _)) fun _ => Ev.bind (rising_ev _ (by omega)) (Ev.now _)
  | cons h r ih =>
    intro p hp
    have hlen : l.length = p.length + (r.length + 1) := by rw [← hp]; simp
    have hh := hl.2 h (by rw [← hp]; simp)
    have hr : rd_T28 l (p.length : Int) = h := by rw [← hp]; exact rd_mid p h r
    have e2 : wrap64 ((p.length : Int) + 1) = ((p ++ [h]).length : Int) := by simp; unfold wrap64; omega
    have hp' : (p ++ [h]) ++ r = l := by simpa using hp
    have hpo : HOk p := by rw [← hp] at hl; exact hl.left
    have ht := totalN_le hpo
    have hu := unsafeN_length p
    have hn := lowN_length p
    have htr := trimS_size h.f1
    have ih' := ih (p ++ [h]) hp'
    have e6 : lowN [h] = [lowB h.f0] := rfl
    rw [unsafeN_append, lowN_append, totalN_append, e6] at ih'
    refine evSucc ?_
    simp only [lockkeeperref7_Names.l0, hr, e2]
    refine evPos (by omega) (evPos (by omega) (evBind (rlower_f _ (by omega)) (evPos (by omega) (evBind rfl (Ev.bind (rheader_ev _ _ hh.1 hh.2) ?_)))))
    cases hd : safeS h.f0 h.f1 with
    | true =>
      refine evPos rfl (Ev.bind (rtrim_ev _ (by omega)) ?_)
      have e3 : wrap64 ((totalN p : Int) + ((trimS h.f1).size : Int)) = ((totalN p + totalN [h] : Nat) : Int) := by
        have : totalN [h] = (trimS h.f1).size := by simp [totalN, hsafe, hd]
        rw [this]
        unfold wrap64
        omega
      rw [e3]
      have e4 : unsafeN [h] = [] := by simp [unsafeN, lowN, hsafe, hd]
      rw [e4, List.append_nil] at ih'
      exact ih'
    | false =>
      refine evNeg (by decide) (evPos (by omega) ?_)
      have e3 : totalN [h] = 0 := by simp [totalN, hsafe, hd]
      have e4 : unsafeN [h] = [lowB h.f0] := by simp [unsafeN, lowN, hsafe, hd]
      rw [e3, e4, Nat.add_zero] at ih'
      exact ih'
theorem rsnames_ev (l : List Hd) (hl : HOk l) : Ev (fun k => lockkeeperref7_Names.f k l) (snames l) := by
  have := r7names_l0 l hl l [] rfl
  exact this
def knowns : List ByteArray := [(⟨#[68, 69, 76, 69, 84, 69]⟩ : ByteArray), (⟨#[71, 69, 84]⟩ : ByteArray), (⟨#[72, 69, 65, 68]⟩ : ByteArray), (⟨#[79, 80, 84, 73, 79, 78, 83]⟩ : ByteArray), (⟨#[80, 79, 83, 84]⟩ : ByteArray), (⟨#[80, 85, 84]⟩ : ByteArray)]
def knownGo (s : ByteArray) : List ByteArray → ByteArray
  | [] => ⟨#[]⟩
  | m :: r => if foldB s m = true then m else knownGo s r
theorem known_l0 (s : ByteArray) (hs : s.size ≤ 9223372036854775807) : ∀ n i : Nat, i + n = 6 → Ev (fun k => method_known.l0 k s (i : Int)) (knownGo s (knowns.drop i)) := by
  intro n
  induction n with
  | zero =>
    intro i hi
    rw [List.drop_of_length_le (by show 6 ≤ i; omega), knownGo]
    refine evSucc ?_
    simp only [method_known.l0]
    exact evNeg (by omega) (Ev.now _)
  | succ n ih =>
    intro i hi
    have hlt : i < knowns.length := by show i < 6; omega
    have e2 : wrap64 ((i : Int) + 1) = ((i + 1 : Nat) : Int) := by unfold wrap64; omega
    have hz : ∀ m ∈ knowns, m.size ≤ 7 := by decide
    have hm := hz _ (List.getElem_mem hlt)
    rw [List.drop_eq_getElem_cons hlt, knownGo]
    refine evSucc ?_
    have e3 : rdOf ByteArray.empty ([(⟨#[68, 69, 76, 69, 84, 69]⟩ : ByteArray), (⟨#[71, 69, 84]⟩ : ByteArray), (⟨#[72, 69, 65, 68]⟩ : ByteArray), (⟨#[79, 80, 84, 73, 79, 78, 83]⟩ : ByteArray), (⟨#[80, 79, 83, 84]⟩ : ByteArray), (⟨#[80, 85, 84]⟩ : ByteArray)] : List ByteArray) (i : Int) = knowns[i] := rdOf_get _ _ hlt
    simp only [method_known.l0, e2, e3]
    refine evPos (by omega) (evPos (by omega) (evBind (fold_f _ _ hs (by omega)) ?_))
    exact evIte (fun _ => Ev.now _) fun _ => ih (i + 1) (by omega)
theorem known_ev (s : ByteArray) (hs : s.size ≤ 9223372036854775807) : Ev (fun k => method_known.f k s) (knownGo s knowns) := known_l0 s hs 6 0 rfl
def safeM (s : ByteArray) : Bool := if (knownGo s knowns).toList = ([71, 69, 84] : List UInt8) then true else if (knownGo s knowns).toList = ([72, 69, 65, 68] : List UInt8) then true else if (knownGo s knowns).toList = ([80, 79, 83, 84] : List UInt8) then true else false
theorem safeM_ev (s : ByteArray) (hs : s.size ≤ 9223372036854775807) : Ev (fun k => method_Safe.f k s) (safeM s) := by
  unfold method_Safe.f safeM
  exact Ev.bind (known_ev s hs) (evIte (fun _ => Ev.now _) fun _ => evIte (fun _ => Ev.now _) fun _ => evIte (fun _ => Ev.now _) fun _ => Ev.now _)
theorem norm_go (s : ByteArray) (hs : s.size ≤ 9223372036854775807) (l : List ByteArray) (hl : ∀ m ∈ l, m.size ≤ 7 ∧ m ≠ ⟨#[]⟩) : normGo s l = some (if knownGo s l = ⟨#[]⟩ then s else knownGo s l) := by
  induction l with
  | nil => rfl
  | cons m r ih =>
    have h := hl m (by simp)
    rw [normGo, knownGo, rfold_f s m hs (by omega)]
    simp only [Option.bind_some]
    cases hf : foldB s m with
    | true => rw [if_pos rfl, if_pos rfl, if_neg h.2]
    | false => simp only [Bool.false_eq_true, if_false]; exact ih fun x hx => hl x (by simp [hx])
theorem known_none (s : ByteArray) (l : List ByteArray) (h : knownGo s l = ⟨#[]⟩) (hl : ∀ m ∈ l, m ≠ ⟨#[]⟩) : s ∉ l := by
  induction l with
  | nil => simp
  | cons m r ih =>
    rw [knownGo] at h
    intro hs
    rcases List.mem_cons.1 hs with rfl | hs
    · rw [if_pos (by unfold foldB; simp)] at h
      exact hl s (by simp) h
    · split at h
      · exact hl m (by simp) h
      · exact ih h (fun x hx => hl x (by simp [hx])) hs
theorem rsafe_f (s : ByteArray) (hs : s.size ≤ 9223372036854775807) : lockkeeperref5_Safe.f s = some (safeM s) := by
  have hk : ∀ m ∈ knowns, m.size ≤ 7 ∧ m ≠ ⟨#[]⟩ := by decide
  unfold lockkeeperref5_Safe.f lockkeeperref5_Norm.f
  rw [show r5Names = knowns from rfl, norm_go s hs knowns hk]
  simp only [Option.bind_some]
  unfold safeM
  by_cases h : knownGo s knowns = ⟨#[]⟩
  · have hn := known_none s knowns h fun m hm => (hk m hm).2
    rw [if_pos h, h, tl, tl]
    have hg : s.data.toList ≠ ([71, 69, 84] : List UInt8) := fun e => hn (by rw [show s = (⟨#[71, 69, 84]⟩ : ByteArray) from ba_ext e]; simp [knowns])
    have hh : s.data.toList ≠ ([72, 69, 65, 68] : List UInt8) := fun e => hn (by rw [show s = (⟨#[72, 69, 65, 68]⟩ : ByteArray) from ba_ext e]; simp [knowns])
    have hp : s.data.toList ≠ ([80, 79, 83, 84] : List UInt8) := fun e => hn (by rw [show s = (⟨#[80, 79, 83, 84]⟩ : ByteArray) from ba_ext e]; simp [knowns])
    rw [if_neg hg, if_neg hh, show (s.data.toList == ([80, 79, 83, 84] : List UInt8)) = false by simpa using hp]
    rfl
  · rw [if_neg h]
    by_cases h1 : (knownGo s knowns).toList = ([71, 69, 84] : List UInt8)
    · rw [if_pos h1, if_pos h1]
    · rw [if_neg h1, if_neg h1]
      by_cases h2 : (knownGo s knowns).toList = ([72, 69, 65, 68] : List UInt8)
      · rw [if_pos h2, if_pos h2]
      · rw [if_neg h2, if_neg h2]
        by_cases h3 : (knownGo s knowns).toList = ([80, 79, 83, 84] : List UInt8)
        · rw [if_pos h3, h3]; rfl
        · rw [if_neg h3, show ((knownGo s knowns).toList == ([80, 79, 83, 84] : List UInt8)) = false by simpa using h3]
def barsS (s : ByteArray) : Bool := if foldB s (⟨#[67, 79, 78, 78, 69, 67, 84]⟩ : ByteArray) = true then true else if foldB s (⟨#[84, 82, 65, 67, 69]⟩ : ByteArray) = true then true else foldB s (⟨#[84, 82, 65, 67, 75]⟩ : ByteArray)
theorem bars_f (s : ByteArray) (h : s.size ≤ 1000) : method_Bars.f s = some (barsS s) := by
  unfold method_Bars.f barsS
  rw [fold_f s _ (by omega) (by decide), fold_f s _ (by omega) (by decide), fold_f s _ (by omega) (by decide)]
  simp only [Option.bind_some]
  repeat' split
  all_goals first | rfl | simp_all
def methS (s : ByteArray) : Int := if tokS s = true then (if (s.size : Int) > 32 then 5 else if barsS s = true then 5 else 0) else 5
theorem mchk_ev (s : ByteArray) (h : s.size ≤ 1000) : Ev (fun k => method_Check.f k s) (methS s) := by
  unfold method_Check.f methS
  exact Ev.bind (token_ev s (by omega)) (evIte (fun _ => evIte (fun _ => Ev.now _) fun _ => evBind (bars_f s h) (evIte (fun _ => Ev.now _) fun _ => Ev.now _)) fun _ => Ev.now _)
def mnormS (s : ByteArray) : ByteArray := if (knownGo s knowns).toList = ([] : List UInt8) then s else knownGo s knowns
theorem mnorm_ev (s : ByteArray) (h : s.size ≤ 1000) : Ev (fun k => method_Norm.f k s) (mnormS s) := by
  unfold method_Norm.f mnormS
  exact Ev.bind (known_ev s (by omega)) (evIte (fun _ => Ev.now _) fun _ => Ev.now _)
def RS (m u o : ByteArray) (l : List Hd) : Prop := m.size ≤ 1000 ∧ u.size ≤ 1000 ∧ o.size ≤ 1000 ∧ HOk l
def modeS (m : Int) : Bool := if m = 1 then true else if m = 2 then true else m == 3
theorem mode_f (m : Int) : ask_isMode.f m = some (modeS m) := by
  unfold ask_isMode.f modeS
  repeat' split
  all_goals rfl
def plainS (m : ByteArray) (l : List Hd) : Bool := if safeM m = true then ((snames l).length : Int) == 0 else false
theorem plain_ev (m u o : ByteArray) (mode : Int) (creds : Bool) (l : List Hd) (cls tmo grp sig : Int) (h : RS m u o l) : Ev (fun k => ask_plain.f k m u o mode creds l cls tmo grp sig) (plainS m l) := by
  obtain ⟨h1, h2, h3, h4⟩ := h
  unfold ask_plain.f plainS
  exact Ev.bind (safeM_ev m (by omega)) (evIte (fun _ => Ev.bind (snames_ev l h4) (Ev.now _)) fun _ => Ev.now _)
def lastS (b : Bool) (tmo grp sig : Int) : Int := if b = true then 8 else if tmo > 600 then 9 else if grp < 0 then 2 else if sig < 0 then 2 else 0
def fieldS (m : ByteArray) (mode : Int) (l : List Hd) (cls tmo grp sig : Int) : Int :=
  if methS m = 0 then (if modeS mode = true then (if checkS l = 0 then (if cls < 1 then lastS true tmo grp sig else lastS (decide (cls > 6)) tmo grp sig) else checkS l) else 7) else methS m
theorem fields_j0 (b : Bool) (m u o : ByteArray) (mode : Int) (creds : Bool) (l : List Hd) (cls tmo grp sig : Int) : Ev (fun k => ask_fields.j0 k b m u o mode creds l cls tmo grp sig) (lastS b tmo grp sig) := by
  refine evSucc ?_
  simp only [ask_fields.j0]
  unfold lastS
  exact evIte (fun _ => Ev.now _) fun _ => evIte (fun _ => Ev.now _) fun _ => evIte (fun _ => Ev.now _) fun _ => evIte (fun _ => Ev.now _) fun _ => Ev.now _
theorem fields_ev (m u o : ByteArray) (mode : Int) (creds : Bool) (l : List Hd) (cls tmo grp sig : Int) (h : RS m u o l) : Ev (fun k => ask_fields.f k m u o mode creds l cls tmo grp sig) (fieldS m mode l cls tmo grp sig) := by
  obtain ⟨h1, h2, h3, h4⟩ := h
  unfold ask_fields.f fieldS
  exact Ev.bind (mchk_ev m h1) (evIte (fun _ => evBind (mode_f mode) (evIte (fun _ => Ev.bind (check_ev l h4) (evIte (fun _ => evIte (fun _ => fields_j0 _ _ _ _ _ _ _ _ _ _ _) fun _ => fields_j0 _ _ _ _ _ _ _ _ _ _ _) fun _ => Ev.now _)) fun _ => Ev.now _)) fun _ => Ev.now _)
def unlikeS (u : UT) (o : OT) : Bool := !(u.1.toList == o.1.toList) || (!(u.2.1.toList == o.2.1.toList) || (!(u.2.2.1 == o.2.2.1)))
def modesS (m u o : ByteArray) (mode : Int) (l : List Hd) : Int :=
  if mode = 1 then (if unlikeS (tparseS u) (parseS o) = true then 7 else 0) else if mode = 2 then (if plainS m l = true then 0 else 7) else 0
def askS (m u o : ByteArray) (mode : Int) (l : List Hd) (cls tmo grp sig : Int) : Int :=
  if (tparseS u).2.2.2.2.2 = 0 then (if (parseS o).2.2.2 = 0 then (if fieldS m mode l cls tmo grp sig = 0 then modesS m u o mode l else fieldS m mode l cls tmo grp sig) else (parseS o).2.2.2) else (tparseS u).2.2.2.2.2
theorem achk_ev (m u o : ByteArray) (mode : Int) (creds : Bool) (l : List Hd) (cls tmo grp sig : Int) (h : RS m u o l) : Ev (fun k => ask_Check.f k m u o mode creds l cls tmo grp sig) (askS m u o mode l cls tmo grp sig) := by
  have h' := h
  obtain ⟨h1, h2, h3, h4⟩ := h
  unfold ask_Check.f askS
  refine Ev.bind (tparse_ev u (by omega)) (evIte (fun _ => Ev.bind (parse_ev o (by omega)) (evIte (fun _ => Ev.bind (fields_ev m u o mode creds l cls tmo grp sig h') (evIte (fun _ => ?_) fun _ => Ev.now _)) fun _ => Ev.now _)) fun _ => Ev.now _)
  unfold modesS
  refine evIte (fun e => ?_) fun _ => evIte (fun _ => Ev.bind (plain_ev m u o mode creds l cls tmo grp sig h') (evIte (fun _ => Ev.now _) fun _ => Ev.now _)) fun _ => Ev.now _
  exact evIte (fun _ => Ev.now _) fun _ => evNeg (by omega) (Ev.now _)
abbrev PT : Type := ByteArray × ByteArray × Int × ByteArray × ByteArray × ByteArray × ByteArray × Int × Bool
def partS (m u o : ByteArray) (mode : Int) (l : List Hd) (cls tmo grp sig : Int) : PT :=
  if askS m u o mode l cls tmo grp sig = 0 then ((tparseS u).1, (tparseS u).2.1, (tparseS u).2.2.1, (tparseS u).2.2.2.1, (tparseS u).2.2.2.2.1, (parseS o).1, (parseS o).2.1, (parseS o).2.2.1, true)
  else (⟨#[]⟩, ⟨#[]⟩, 0, ⟨#[]⟩, ⟨#[]⟩, ⟨#[]⟩, ⟨#[]⟩, 0, false)
theorem parts_ev (m u o : ByteArray) (mode : Int) (creds : Bool) (l : List Hd) (cls tmo grp sig : Int) (h : RS m u o l) : Ev (fun k => ask_parts.f k m u o mode creds l cls tmo grp sig) (partS m u o mode l cls tmo grp sig) := by
  unfold ask_parts.f partS
  refine Ev.bind (achk_ev m u o mode creds l cls tmo grp sig h) ?_
  obtain ⟨h1, h2, h3, h4⟩ := h
  exact evIte (fun _ => Ev.bind (tparse_ev u (by omega)) (Ev.bind (parse_ev o (by omega)) (Ev.now _))) fun _ => Ev.now _
theorem partS_ok {m u o : ByteArray} {mode : Int} {l : List Hd} {cls tmo grp sig : Int} (h : askS m u o mode l cls tmo grp sig = 0) : partS m u o mode l cls tmo grp sig = ((tparseS u).1, (tparseS u).2.1, (tparseS u).2.2.1, (tparseS u).2.2.2.1, (tparseS u).2.2.2.2.1, (parseS o).1, (parseS o).2.1, (parseS o).2.2.1, true) := if_pos h
theorem partS_not {m u o : ByteArray} {mode : Int} {l : List Hd} {cls tmo grp sig : Int} (h : ¬ askS m u o mode l cls tmo grp sig = 0) : partS m u o mode l cls tmo grp sig = (⟨#[]⟩, ⟨#[]⟩, 0, ⟨#[]⟩, ⟨#[]⟩, ⟨#[]⟩, ⟨#[]⟩, 0, false) := if_neg h
abbrev NT : Type := ByteArray × ByteArray × ByteArray × Int × Bool × List Hd × Int × Int × Int × Int
def noR : NT := (⟨#[]⟩, ⟨#[]⟩, ⟨#[]⟩, 0, false, [], 0, 0, 0, 0)
def toldU (u : ByteArray) : ByteArray := tShowS (tparseS u).1 (tparseS u).2.1 (tparseS u).2.2.1 (tparseS u).2.2.2.1 (tparseS u).2.2.2.2.1
def toldO (o : ByteArray) : ByteArray := showS (parseS o).1 (parseS o).2.1 (parseS o).2.2.1
def normR (m u o : ByteArray) (mode : Int) (creds : Bool) (l : List Hd) (cls tmo grp sig : Int) : NT :=
  if askS m u o mode l cls tmo grp sig = 0 then (mnormS m, toldU u, toldO o, mode, creds, normS l, cls, tmo, grp, sig) else noR
theorem anorm_ev (m u o : ByteArray) (mode : Int) (creds : Bool) (l : List Hd) (cls tmo grp sig : Int) (h : RS m u o l) : Ev (fun k => ask_Norm.f k m u o mode creds l cls tmo grp sig) (normR m u o mode creds l cls tmo grp sig) := by
  unfold ask_Norm.f normR
  refine Ev.bind (parts_ev m u o mode creds l cls tmo grp sig h) ?_
  obtain ⟨h1, h2, h3, h4⟩ := h
  by_cases e : askS m u o mode l cls tmo grp sig = 0
  · rw [partS_ok e, if_pos e]
    have z := tparse_sizes u (by omega)
    have y := parse_sizes o (by omega)
    exact evPos rfl (Ev.bind (mnorm_ev m h1) (Ev.bind (tShow_ev _ _ _ _ _ z.1 z.2.1 z.2.2.1 z.2.2.2) (Ev.bind (show_ev _ _ _ y.1 y.2) (Ev.bind (norm_ev l h4) (Ev.now _)))))
  · rw [partS_not e, if_neg e]
    exact evNeg (by decide) (Ev.now _)
def crossS (m u o : ByteArray) (mode : Int) (l : List Hd) (cls tmo grp sig : Int) : Bool := if askS m u o mode l cls tmo grp sig = 0 then unlikeS (tparseS u) (parseS o) else false
theorem cross_ev (m u o : ByteArray) (mode : Int) (creds : Bool) (l : List Hd) (cls tmo grp sig : Int) (h : RS m u o l) : Ev (fun k => ask_Cross.f k m u o mode creds l cls tmo grp sig) (crossS m u o mode l cls tmo grp sig) := by
  unfold ask_Cross.f crossS
  refine Ev.bind (parts_ev m u o mode creds l cls tmo grp sig h) ?_
  by_cases e : askS m u o mode l cls tmo grp sig = 0
  · rw [partS_ok e, if_pos e]
    exact evPos rfl (Ev.now _)
  · rw [partS_not e, if_neg e]
    exact evNeg (by decide) (Ev.now _)
def namesR (m u o : ByteArray) (mode : Int) (l : List Hd) (cls tmo grp sig : Int) : List ByteArray := if askS m u o mode l cls tmo grp sig = 0 then snames l else []
theorem anames_ev (m u o : ByteArray) (mode : Int) (creds : Bool) (l : List Hd) (cls tmo grp sig : Int) (h : RS m u o l) : Ev (fun k => ask_Names.f k m u o mode creds l cls tmo grp sig) (namesR m u o mode l cls tmo grp sig) := by
  unfold ask_Names.f namesR
  refine Ev.bind (achk_ev m u o mode creds l cls tmo grp sig h) ?_
  exact evIte (fun _ => Ev.bind (snames_ev l h.2.2.2) (Ev.now _)) fun _ => Ev.now _
def needsS (m u o : ByteArray) (mode : Int) (l : List Hd) (cls tmo grp sig : Int) : Bool := if mode = 3 then (if crossS m u o mode l cls tmo grp sig = true then !plainS m l else false) else false
theorem needs_ev (m u o : ByteArray) (mode : Int) (creds : Bool) (l : List Hd) (cls tmo grp sig : Int) (h : RS m u o l) : Ev (fun k => ask_Needs.f k m u o mode creds l cls tmo grp sig) (needsS m u o mode l cls tmo grp sig) := by
  unfold ask_Needs.f needsS
  exact evIte (fun _ => Ev.bind (cross_ev m u o mode creds l cls tmo grp sig h) (evIte (fun _ => Ev.bind (plain_ev m u o mode creds l cls tmo grp sig h) (Ev.now _)) fun _ => Ev.now _)) fun _ => Ev.now _
def keyR (m u o : ByteArray) (mode : Int) (l : List Hd) (cls tmo grp sig : Int) : ByteArray := if askS m u o mode l cls tmo grp sig = 0 then keyS (tparseS u).1 (tparseS u).2.1 (tparseS u).2.2.1 else ⟨#[]⟩
theorem akey_ev (m u o : ByteArray) (mode : Int) (creds : Bool) (l : List Hd) (cls tmo grp sig : Int) (h : RS m u o l) : Ev (fun k => ask_Key.f k m u o mode creds l cls tmo grp sig) (keyR m u o mode l cls tmo grp sig) := by
  unfold ask_Key.f keyR
  refine Ev.bind (parts_ev m u o mode creds l cls tmo grp sig h) ?_
  have h2 := h.2.1
  by_cases e : askS m u o mode l cls tmo grp sig = 0
  · rw [partS_ok e, if_pos e]
    have z := tparse_sizes u (by omega)
    exact evPos rfl (Ev.bind (key_ev _ _ _ z.1 z.2.1) (Ev.now _))
  · rw [partS_not e, if_neg e]
    exact evNeg (by decide) (Ev.now _)
def cellR (m u o : ByteArray) (mode : Int) (creds : Bool) (l : List Hd) (cls tmo grp sig : Int) : ByteArray × ByteArray × Bool :=
  ((normR m u o mode creds l cls tmo grp sig).2.2.1, (normR m u o mode creds l cls tmo grp sig).2.1, (normR m u o mode creds l cls tmo grp sig).2.2.2.2.1)
theorem acell_ev (m u o : ByteArray) (mode : Int) (creds : Bool) (l : List Hd) (cls tmo grp sig : Int) (h : RS m u o l) : Ev (fun k => ask_Cell.f k m u o mode creds l cls tmo grp sig) (cellR m u o mode creds l cls tmo grp sig) := by
  unfold ask_Cell.f cellR
  exact Ev.bind (anorm_ev m u o mode creds l cls tmo grp sig h) (Ev.now _)
def commaS (l : List ByteArray) : ByteArray := joinB l (⟨#[44]⟩ : ByteArray)
def wantR (m u o : ByteArray) (mode : Int) (creds : Bool) (l : List Hd) (cls tmo grp sig : Int) : ByteArray × ByteArray × Bool × ByteArray × ByteArray :=
  ((cellR m u o mode creds l cls tmo grp sig).1, (cellR m u o mode creds l cls tmo grp sig).2.1, (cellR m u o mode creds l cls tmo grp sig).2.2, (normR m u o mode creds l cls tmo grp sig).1, commaS (namesR m u o mode l cls tmo grp sig))
theorem join_le (sep : Bs) (n : Nat) : ∀ L : List Bs, (∀ x ∈ L, x.length ≤ n) → (Lib.join L sep).length ≤ L.length * (n + sep.length)
  | [], _ => by simp [Lib.join]
  | [x], h => by
    have := h x (by simp)
    simp [Lib.join]
    omega
  | x :: y :: r, h => by
    have h1 := h x (by simp)
    have h2 := join_le sep n (y :: r) (fun z hz => h z (by simp [hz]))
    have e : (Lib.join (x :: y :: r) sep).length = x.length + sep.length + (Lib.join (y :: r) sep).length := by simp [Lib.join]; omega
    rw [e, List.length_cons, Nat.succ_mul]
    omega
theorem snames_size (l : List Hd) (hl : HOk l) : (snames l).length ≤ 1000 ∧ ∀ x ∈ snames l, x.size ≤ 1000000 := by
  refine ⟨Nat.le_trans (snames_length l) hl.1, fun x hx => ?_⟩
  have h1 := snames_sub l x hx
  rw [namesS_mem] at h1
  obtain ⟨h, hm, e⟩ := h1
  rw [← e, lowB_size]
  exact (hl.2 h hm).1
theorem comma_f (L : List ByteArray) (h : L.length ≤ 1000) (hx : ∀ x ∈ L, x.size ≤ 1000000) : strings_Join.f L (⟨#[44]⟩ : ByteArray) = some (commaS L) := by
  have h1 := join_le ([44] : List UInt8) 1000000 (L.map fun x => x.data.toList) (by
    intro x hm
    obtain ⟨y, hy, rfl⟩ := List.mem_map.1 hm
    have := hx y hy
    rw [size_len] at this
    exact this)
  rw [List.length_map] at h1
  have h2 : L.length * (1000000 + (([44] : List UInt8) : Bs).length) ≤ 1000 * 1000001 := Nat.mul_le_mul h (by decide)
  unfold strings_Join.f commaS
  rw [if_pos ⟨by omega, by show (Lib.join (L.map fun x => x.data.toList) ([44] : List UInt8)).length ≤ _; omega⟩]
theorem namesR_size (m u o : ByteArray) (mode : Int) (l : List Hd) (cls tmo grp sig : Int) (hl : HOk l) : (namesR m u o mode l cls tmo grp sig).length ≤ 1000 ∧ ∀ x ∈ namesR m u o mode l cls tmo grp sig, x.size ≤ 1000000 := by
  unfold namesR
  split
  · exact snames_size l hl
  · exact ⟨by simp, by simp⟩
theorem want_ev (m u o : ByteArray) (mode : Int) (creds : Bool) (l : List Hd) (cls tmo grp sig : Int) (h : RS m u o l) : Ev (fun k => ask_Want.f k m u o mode creds l cls tmo grp sig) (wantR m u o mode creds l cls tmo grp sig) := by
  have hz := namesR_size m u o mode l cls tmo grp sig h.2.2.2
  unfold ask_Want.f wantR
  exact Ev.bind (anorm_ev m u o mode creds l cls tmo grp sig h) (Ev.bind (acell_ev m u o mode creds l cls tmo grp sig h) (Ev.bind (anames_ev m u o mode creds l cls tmo grp sig h) (evBind (comma_f _ hz.1 hz.2) (Ev.now _))))
theorem awake8 : ∃ k, lockkeeperlaw8_awake.f k = some true := ⟨200, by kernel_rfl⟩
theorem awake8_ev : Ev (fun k => lockkeeperlaw8_awake.f k) true := Ev.of lockkeeperlaw8_awake.mono awake8.choose_spec
theorem greatR_ev (m u o : ByteArray) (mode : Int) (creds : Bool) (l : List Hd) (cls tmo grp sig : Int) :
    ∃ b, Ev (fun k => lockkeeperlaw0_GreatReq.f k m u o mode creds l cls tmo grp sig) b ∧ (b = false → m.size ≤ 60 ∧ u.size ≤ 700 ∧ o.size ≤ 700 ∧ HSmall l) := by
  unfold lockkeeperlaw0_GreatReq.f
  by_cases h1 : (m.size : Int) > 60
  · exact ⟨true, evPos h1 (Ev.now _), fun h => by cases h⟩
  by_cases h2 : (u.size : Int) > 700
  · exact ⟨true, evNeg h1 (evPos h2 (Ev.now _)), fun h => by cases h⟩
  by_cases h3 : (o.size : Int) > 700
  · exact ⟨true, evNeg h1 (evNeg h2 (evPos h3 (Ev.now _))), fun h => by cases h⟩
  obtain ⟨b, hb, hB⟩ := great_ev l
  exact ⟨b, evNeg h1 (evNeg h2 (evNeg h3 (Ev.bind hb (Ev.now _)))), fun e => ⟨by omega, by omega, by omega, hB e⟩⟩
theorem small_ok {l : List Hd} (h : HSmall l) : HOk l := ⟨by have := h.1; omega, fun x hx => by have := h.2 x hx; omega⟩
theorem req_refl (m u o : ByteArray) (mode : Int) (creds : Bool) (l : List Hd) (cls tmo grp sig : Int) (hl : l.length ≤ 9223372036854775807) :
    Ev (fun k => lockkeeperlaw0_Req.f k m u o mode creds l cls tmo grp sig m u o mode creds l cls tmo grp sig) true := by
  unfold lockkeeperlaw0_Req.f
  exact evPos rfl (evPos rfl (evPos rfl (evPos rfl (evPos (by simp) (Ev.bind (headers_refl l hl) (evPos rfl (evPos rfl (evPos rfl (evPos rfl (by simpa using Ev.now _))))))))))
theorem normR_ok {m : ByteArray} {u : ByteArray} {o : ByteArray} {mode : Int} {creds : Bool} {l : List Hd} {cls : Int} {tmo : Int} {grp : Int} {sig : Int} (h : askS m u o mode l cls tmo grp sig = 0) : normR m u o mode creds l cls tmo grp sig = (mnormS m, toldU u, toldO o, mode, creds, normS l, cls, tmo, grp, sig) := if_pos h
theorem normR_not {m : ByteArray} {u : ByteArray} {o : ByteArray} {mode : Int} {creds : Bool} {l : List Hd} {cls : Int} {tmo : Int} {grp : Int} {sig : Int} (h : ¬ askS m u o mode l cls tmo grp sig = 0) : normR m u o mode creds l cls tmo grp sig = noR := if_neg h
theorem rbars_f (s : ByteArray) (h : s.size ≤ 1000) : lockkeeperref5_Bars.f s = some (barsS s) := by
  unfold lockkeeperref5_Bars.f barsS
  rw [rfold_f s _ (by omega) (by decide), rfold_f s _ (by omega) (by decide), rfold_f s _ (by omega) (by decide)]
  simp only [Option.bind_some]
  repeat' split
  all_goals first | rfl | simp_all
theorem rmchk_ev (s : ByteArray) (h : s.size ≤ 1000) : Ev (fun k => lockkeeperref5_Check.f k s) (methS s) := by
  unfold lockkeeperref5_Check.f
  by_cases h1 : (s.size : Int) > 32
  · have e : methS s = 5 := by unfold methS; rw [if_pos h1]; split <;> rfl
    rw [e]
    exact evPos h1 (Ev.now _)
  · have e : methS s = if tokS s = true then (if barsS s = true then 5 else 0) else 5 := by unfold methS; rw [if_neg h1]
    rw [e]
    exact evNeg h1 (Ev.bind (rtoken_ev s (by omega)) (evIte (fun _ => evBind (rbars_f s h) (evIte (fun _ => Ev.now _) fun _ => Ev.now _)) fun _ => Ev.now _))
theorem rmnorm_f (s : ByteArray) (h : s.size ≤ 1000) : lockkeeperref5_Norm.f s = some (mnormS s) := by
  have hk : ∀ m ∈ knowns, m.size ≤ 7 ∧ m ≠ ⟨#[]⟩ := by decide
  unfold lockkeeperref5_Norm.f mnormS
  rw [show r5Names = knowns from rfl, norm_go s (by omega) knowns hk, tl]
  congr 1
  by_cases e : knownGo s knowns = ⟨#[]⟩
  · rw [if_pos e, if_pos (by rw [e])]
  · rw [if_neg e, if_neg (fun x => e (ba_ext x))]
section
variable (m u o : ByteArray) (mode : Int) (creds : Bool) (l : List Hd) (cls tmo grp sig : Int)
def j3S (b : Bool) (m : ByteArray) (mode : Int) (l : List Hd) : Int := if b = true then 7 else if mode = 2 then (if safeM m = true then (if ((snames l).length : Int) > 0 then 7 else 0) else 7) else 0
theorem rj3_ev (b : Bool) (h : RS m u o l) : Ev (fun k => lockkeeperref8_Check.j3 k b m u o mode creds l cls tmo grp sig) (j3S b m mode l) := by
  have h1 := h.1
  refine evSucc ?_
  simp only [lockkeeperref8_Check.j3]
  exact evIte (fun _ => Ev.now _) fun _ => evIte (fun _ => evBind (rsafe_f m (by omega)) (evIte (fun _ => Ev.bind (rsnames_ev l h.2.2.2) (evIte (fun _ => Ev.now _) fun _ => Ev.now _)) fun _ => Ev.now _)) fun _ => Ev.now _
theorem j3_modes : (if mode = 1 then j3S (unlikeS (tparseS u) (parseS o)) m mode l else j3S false m mode l) = modesS m u o mode l := by
  unfold j3S modesS plainS
  by_cases h1 : mode = 1
  · rw [if_pos h1, if_pos h1, if_neg (by omega : ¬ mode = 2)]
  · rw [if_neg h1, if_neg h1, if_neg (by decide)]
    by_cases h2 : mode = 2
    · rw [if_pos h2, if_pos h2]
      cases safeM m with
      | true =>
        simp only [if_true, beq_iff_eq]
        by_cases e : ((snames l).length : Int) = 0
        · rw [if_neg (by omega), if_pos e]
        · rw [if_pos (by omega), if_neg e]
      | false => simp
    · rw [if_neg h2, if_neg h2]
theorem rj2_ev (b : Bool) (h : RS m u o l) : Ev (fun k => lockkeeperref8_Check.j2 k b m u o mode creds l cls tmo grp sig (tparseS u).1 (tparseS u).2.1 (tparseS u).2.2.1 (tparseS u).2.2.2.1 (tparseS u).2.2.2.2.1 (parseS o).1 (parseS o).2.1 (parseS o).2.2.1) (if b = true then 2 else modesS m u o mode l) := by
  refine evSucc ?_
  simp only [lockkeeperref8_Check.j2]
  refine evIte (fun _ => Ev.now _) fun _ => ?_
  exact evEq (evIte (fun _ => rj3_ev m u o mode creds l cls tmo grp sig _ h) fun _ => rj3_ev m u o mode creds l cls tmo grp sig _ h) (j3_modes m u o mode l)
def j1S (b : Bool) (m u o : ByteArray) (mode : Int) (l : List Hd) (tmo grp sig : Int) : Int := if b = true then 8 else if tmo > 600 then 9 else if grp < 0 then 2 else if sig < 0 then 2 else modesS m u o mode l
theorem rj1_ev (b : Bool) (h : RS m u o l) : Ev (fun k => lockkeeperref8_Check.j1 k b m u o mode creds l cls tmo grp sig (tparseS u).1 (tparseS u).2.1 (tparseS u).2.2.1 (tparseS u).2.2.2.1 (tparseS u).2.2.2.2.1 (parseS o).1 (parseS o).2.1 (parseS o).2.2.1) (j1S b m u o mode l tmo grp sig) := by
  refine evSucc ?_
  simp only [lockkeeperref8_Check.j1]
  unfold j1S
  refine evIte (fun _ => Ev.now _) fun _ => evIte (fun _ => Ev.now _) fun _ => evIte (fun _ => ?_) fun _ => ?_
  · exact evEq (rj2_ev m u o mode creds l cls tmo grp sig true h) (if_pos rfl)
  · refine evEq (rj2_ev m u o mode creds l cls tmo grp sig _ h) ?_
    simp only [decide_eq_true_eq]
theorem j1_last (b : Bool) : j1S b m u o mode l tmo grp sig = if lastS b tmo grp sig = 0 then modesS m u o mode l else lastS b tmo grp sig := by
  unfold j1S lastS
  repeat' split
  all_goals first | rfl | (rename_i h; exact absurd h (by decide)) | omega
theorem rj0_ev (b : Bool) (h : RS m u o l) : Ev (fun k => lockkeeperref8_Check.j0 k b m u o mode creds l cls tmo grp sig (tparseS u).1 (tparseS u).2.1 (tparseS u).2.2.1 (tparseS u).2.2.2.1 (tparseS u).2.2.2.2.1 (parseS o).1 (parseS o).2.1 (parseS o).2.2.1)
    (if b = true then 7 else if checkS l = 0 then (if cls < 1 then j1S true m u o mode l tmo grp sig else j1S (decide (cls > 6)) m u o mode l tmo grp sig) else checkS l) := by
  refine evSucc ?_
  simp only [lockkeeperref8_Check.j0]
  exact evIte (fun _ => Ev.now _) fun _ => Ev.bind (rcheck_ev l h.2.2.2) (evIte (fun _ => evIte (fun _ => rj1_ev m u o mode creds l cls tmo grp sig _ h) fun _ => rj1_ev m u o mode creds l cls tmo grp sig _ h) fun _ => Ev.now _)
theorem j0_rest : (if checkS l = 0 then (if cls < 1 then j1S true m u o mode l tmo grp sig else j1S (decide (cls > 6)) m u o mode l tmo grp sig) else checkS l)
    = if (if checkS l = 0 then (if cls < 1 then lastS true tmo grp sig else lastS (decide (cls > 6)) tmo grp sig) else checkS l) = 0 then modesS m u o mode l else (if checkS l = 0 then (if cls < 1 then lastS true tmo grp sig else lastS (decide (cls > 6)) tmo grp sig) else checkS l) := by
  by_cases h1 : checkS l = 0
  · simp only [if_pos h1]
    by_cases h2 : cls < 1
    · simp only [if_pos h2]; exact j1_last m u o mode l tmo grp sig true
    · simp only [if_neg h2]; exact j1_last m u o mode l tmo grp sig _
  · simp only [if_neg h1]
theorem rachk_ev (h : RS m u o l) : Ev (fun k => lockkeeperref8_Check.f k m u o mode creds l cls tmo grp sig) (askS m u o mode l cls tmo grp sig) := by
  obtain ⟨h1, h2, h3, h4⟩ := id h
  unfold lockkeeperref8_Check.f askS
  refine Ev.bind (rp_ev u (by omega)) (evIte (fun _ => Ev.bind (parse3_ev o (by omega)) (evIte (fun _ => Ev.bind (rmchk_ev m h1) ?_) fun _ => Ev.now _)) fun _ => Ev.now _)
  by_cases e : methS m = 0
  · refine evPos e ?_
    refine evEq (evIte (fun _ => rj0_ev m u o mode creds l cls tmo grp sig _ h) fun _ => rj0_ev m u o mode creds l cls tmo grp sig _ h) ?_
    unfold fieldS
    rw [if_pos e]
    by_cases c1 : mode < 1
    · have hm : modeS mode = false := by unfold modeS; rw [if_neg (by omega), if_neg (by omega)]; simp; omega
      rw [if_pos c1, if_pos rfl, hm]
      rfl
    · rw [if_neg c1]
      by_cases c2 : mode > 3
      · have hm : modeS mode = false := by unfold modeS; rw [if_neg (by omega), if_neg (by omega)]; simp; omega
        rw [if_pos (decide_eq_true c2), hm]
        rfl
      · have hm : modeS mode = true := by
          unfold modeS
          by_cases a1 : mode = 1
          · rw [if_pos a1]
          · rw [if_neg a1]
            by_cases a2 : mode = 2
            · rw [if_pos a2]
            · rw [if_neg a2]; simp; omega
        rw [if_neg (by simpa using c2), hm]
        simp only [if_true]
        exact j0_rest m u o mode l cls tmo grp sig
  · have hf : fieldS m mode l cls tmo grp sig = methS m := by unfold fieldS; rw [if_neg e]
    rw [hf, if_neg e]
    exact evNeg e (Ev.now _)
theorem ranorm_ev (h : RS m u o l) : Ev (fun k => lockkeeperref8_Norm.f k m u o mode creds l cls tmo grp sig) (normR m u o mode creds l cls tmo grp sig) := by
  obtain ⟨h1, h2, h3, h4⟩ := id h
  have z := tparse_sizes u (by omega)
  have y := parse_sizes o (by omega)
  unfold lockkeeperref8_Norm.f normR
  exact Ev.bind (rachk_ev m u o mode creds l cls tmo grp sig h) (evIte (fun _ => Ev.bind (rp_ev u (by omega)) (Ev.bind (parse3_ev o (by omega)) (evBind (rmnorm_f m h1) (Ev.bind (rShow_ev _ _ _ _ _ z.1 z.2.1 z.2.2.1 z.2.2.2) (Ev.bind (show3_ev _ _ _ y.1 y.2) (Ev.bind (rnorm_ev l h4) (Ev.now _))))))) fun _ => Ev.now _)
theorem rcross_ev (h : RS m u o l) : Ev (fun k => lockkeeperref8_Cross.f k m u o mode creds l cls tmo grp sig) (crossS m u o mode l cls tmo grp sig) := by
  obtain ⟨h1, h2, h3, h4⟩ := id h
  unfold lockkeeperref8_Cross.f crossS
  exact Ev.bind (rp_ev u (by omega)) (Ev.bind (parse3_ev o (by omega)) (Ev.bind (rachk_ev m u o mode creds l cls tmo grp sig h) (evIte (fun _ => Ev.now _) fun _ => Ev.now _)))
theorem ranames_ev (h : RS m u o l) : Ev (fun k => lockkeeperref8_Names.f k m u o mode creds l cls tmo grp sig) (namesR m u o mode l cls tmo grp sig) := by
  unfold lockkeeperref8_Names.f namesR
  exact Ev.bind (rachk_ev m u o mode creds l cls tmo grp sig h) (evIte (fun _ => Ev.bind (rsnames_ev l h.2.2.2) (Ev.now _)) fun _ => Ev.now _)
theorem rneeds_ev (h : RS m u o l) : Ev (fun k => lockkeeperref8_Needs.f k m u o mode creds l cls tmo grp sig) (needsS m u o mode l cls tmo grp sig) := by
  have h1 := h.1
  unfold lockkeeperref8_Needs.f needsS
  refine evIte (fun _ => Ev.bind (rcross_ev m u o mode creds l cls tmo grp sig h) (evIte (fun hc => ?_) fun _ => Ev.now _)) fun _ => Ev.now _
  have ha : askS m u o mode l cls tmo grp sig = 0 := by
    unfold crossS at hc
    split at hc
    · assumption
    · cases hc
  have hn : namesR m u o mode l cls tmo grp sig = snames l := if_pos ha
  refine evBind (rsafe_f m (by omega)) ?_
  unfold plainS
  cases safeM m with
  | true =>
    refine evPos rfl (Ev.bind (ranames_ev m u o mode creds l cls tmo grp sig h) ?_)
    rw [hn, if_pos rfl]
    refine evEq (Ev.now _) ?_
    by_cases e : ((snames l).length : Int) = 0
    · rw [decide_eq_false (by omega), show (((snames l).length : Int) == 0) = true from beq_iff_eq.2 e]; rfl
    · rw [decide_eq_true (by omega), show (((snames l).length : Int) == 0) = false from beq_eq_false_iff_ne.2 e]; rfl
  | false => exact evNeg (by decide) (Ev.now _)
theorem rakey_ev (h : RS m u o l) : Ev (fun k => lockkeeperref8_Key.f k m u o mode creds l cls tmo grp sig) (keyR m u o mode l cls tmo grp sig) := by
  have h2 := h.2.1
  have z := tparse_sizes u (by omega)
  unfold lockkeeperref8_Key.f keyR
  exact Ev.bind (rachk_ev m u o mode creds l cls tmo grp sig h) (evIte (fun _ => Ev.bind (rp_ev u (by omega)) (Ev.bind (key3_ev _ _ _ z.1 z.2.1) (Ev.now _))) fun _ => Ev.now _)
theorem racell_ev (h : RS m u o l) : Ev (fun k => lockkeeperref8_Cell.f k m u o mode creds l cls tmo grp sig) (cellR m u o mode creds l cls tmo grp sig) := by
  unfold lockkeeperref8_Cell.f cellR
  refine Ev.bind (rachk_ev m u o mode creds l cls tmo grp sig h) ?_
  by_cases e : askS m u o mode l cls tmo grp sig = 0
  · refine evPos e (Ev.bind (ranorm_ev m u o mode creds l cls tmo grp sig h) ?_)
    rw [normR_ok e]
    exact Ev.now _
  · rw [normR_not e]
    exact evNeg e (Ev.now _)
end
theorem comma_snoc (L : List ByteArray) (x : ByteArray) : commaS (L ++ [x]) = if L = [] then x else commaS L ++ (⟨#[44]⟩ : ByteArray) ++ x := by
  refine ba_ext ?_
  unfold commaS joinB
  rw [List.map_append, List.map_singleton, bsOf_data, joinL_snoc]
  cases L with
  | nil => rfl
  | cons a r =>
    rw [if_neg (by simp), if_neg (by simp), append_list, append_list, bsOf_data]
theorem commaS_le (L : List ByteArray) (h : L.length ≤ 1000) (hx : ∀ x ∈ L, x.size ≤ 1000000) : (commaS L).size ≤ 1001000000 := by
  have h1 := join_le ([44] : List UInt8) 1000000 (L.map fun x => x.data.toList) (by
    intro x hm
    obtain ⟨y, hy, rfl⟩ := List.mem_map.1 hm
    have := hx y hy
    rw [size_len] at this
    exact this)
  rw [List.length_map] at h1
  have h2 : L.length * (1000000 + (([44] : List UInt8) : Bs).length) ≤ 1000 * 1000001 := Nat.mul_le_mul h (by decide)
  unfold commaS joinB
  rw [size_bsOf]
  show (Lib.join (L.map fun x => x.data.toList) ([44] : List UInt8)).length ≤ _
  omega
theorem rcommas_ev (L : List ByteArray) (h : L.length ≤ 1000) (hx : ∀ x ∈ L, x.size ≤ 1000000) : Ev (fun k => lockkeeperref8_Commas.f k L) (commaS L) := by
  have key : ∀ n i : Nat, i + n = L.length → Ev (fun k => lockkeeperref8_Commas.l0 k L (commaS (L.take i)) (i : Int)) (commaS L) := by
    intro n
    induction n with
    | zero =>
      intro i hi
      refine evSucc ?_
      simp only [lockkeeperref8_Commas.l0]
      rw [List.take_of_length_le (by omega)]
      exact evNeg (by omega) (Ev.now _)
    | succ n ih =>
      intro i hi
      have hlt : i < L.length := by omega
      have hr : rdOf ByteArray.empty L (i : Int) = L[i] := by simp [rdOf, List.getD_eq_getElem?_getD, List.getElem?_eq_getElem hlt]
      have ht : L.take (i + 1) = L.take i ++ [L[i]] := (List.take_append_getElem hlt).symm
      have hz := commaS_le (L.take i) (by rw [List.length_take]; omega) fun x hm => hx x (List.mem_of_mem_take hm)
      have hy := hx L[i] (List.getElem_mem hlt)
      have hw : wrap64 ((i : Int) + 1) = ((i + 1 : Nat) : Int) := by unfold wrap64; omega
      have ih' := ih (i + 1) (by omega)
      rw [ht, comma_snoc] at ih'
      refine evSucc ?_
      simp only [lockkeeperref8_Commas.l0]
      refine evPos (by omega) ?_
      rw [hr, hw]
      by_cases h0 : i = 0
      · subst h0
        rw [if_pos (List.take_zero ..)] at ih'
        refine evNeg (by omega) (evPos (by omega) (evPos (by omega) ?_))
        have e0 : commaS (L.take 0) ++ L[0] = L[0] := by
          refine ba_ext ?_
          rw [append_list]
          rfl
        rw [e0]
        exact ih'
      · rw [if_neg (fun e => by rcases List.take_eq_nil_iff.1 e with e | e <;> simp_all)] at ih'
        refine evPos (by omega) (evPos (by omega) (evPos (by omega) (evPos ?_ ih')))
        rw [ByteArray.size_append, show ((⟨#[44]⟩ : ByteArray) : ByteArray).size = 1 from rfl]
        omega
  unfold lockkeeperref8_Commas.f
  exact key L.length 0 (Nat.zero_add _)
theorem rwant_ev (m u o : ByteArray) (mode : Int) (creds : Bool) (l : List Hd) (cls tmo grp sig : Int) (h : RS m u o l) : Ev (fun k => lockkeeperref8_Want.f k m u o mode creds l cls tmo grp sig) (wantR m u o mode creds l cls tmo grp sig) := by
  have h1 := h.1
  have hz := namesR_size m u o mode l cls tmo grp sig h.2.2.2
  unfold lockkeeperref8_Want.f wantR
  refine Ev.bind (rachk_ev m u o mode creds l cls tmo grp sig h) ?_
  by_cases e : askS m u o mode l cls tmo grp sig = 0
  · refine evPos e (Ev.bind (racell_ev m u o mode creds l cls tmo grp sig h) (evBind (rmnorm_f m h1) (Ev.bind (ranames_ev m u o mode creds l cls tmo grp sig h) (Ev.bind (rcommas_ev _ hz.1 hz.2) ?_))))
    rw [normR_ok e]
    exact Ev.now _
  · have hn : namesR m u o mode l cls tmo grp sig = [] := if_neg e
    unfold cellR
    rw [normR_not e, hn]
    exact evNeg e (Ev.now _)
end Go.Proofs.YtfmajangcbgooaaGreatDoor.Pr
