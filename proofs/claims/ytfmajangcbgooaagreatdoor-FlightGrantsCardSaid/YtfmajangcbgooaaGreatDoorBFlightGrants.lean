
/- Plain laws: what FlightGrants leans on, in one text. -/
import Derived.Test.YtfmajangcbgooaaGreatDoorG4
import Derived.Test.YtfmajangcbgooaaGreatDoorG5
import Derived.Test.YtfmajangcbgooaaGreatDoorG2
import Derived.Sort.Walk0
import Derived.Test.YtfmajangcbgooaaGreatDoorG7
import Derived.Test.YtfmajangcbgooaaGreatDoorPr4
import Derived.Test.YtfmajangcbgooaaGreatDoorPr5
import Derived.Test.YtfmajangcbgooaaGreatDoorPr1
import Derived.Test.YtfmajangcbgooaaGreatDoorPr8
import Derived.Test.YtfmajangcbgooaaGreatDoorPr6
import Derived.Test.YtfmajangcbgooaaGreatDoorPr13
import Derived.Test.YtfmajangcbgooaaGreatDoorPr15
import Derived.Test.YtfmajangcbgooaaGreatDoorPr12
import Derived.Test.YtfmajangcbgooaaGreatDoorPr17
import Derived.Test.YtfmajangcbgooaaGreatDoorPr18
namespace Go.Proofs.YtfmajangcbgooaaGreatDoor.Pr
open Go.RowKit Go.Proofs.YtfmajangcbgooaaGreatDoorW.PrintWords Go.Proofs.YtfmajangcbgooaaGreatDoorW.PrintLast
set_option linter.unusedVariables false
set_option linter.unusedSimpArgs false
abbrev Bs := List UInt8
theorem tl (s : ByteArray) : s.toList = s.data.toList := ByteArray.toList_eq s
theorem ba_ext {a b : ByteArray} (h : a.data.toList = b.data.toList) : a = b := by
  rw [← bsOf_of a, ← bsOf_of b, h]
theorem tl_eq (a b : ByteArray) : (a.toList = b.toList) ↔ a = b := by
  rw [tl, tl]
  exact ⟨ba_ext, fun h => by rw [h]⟩
theorem tl_beq (a b : ByteArray) : (a.toList == b.toList) = (a.data.toList == b.data.toList) := by rw [tl, tl]
theorem size_len (s : ByteArray) : s.size = s.data.toList.length := (data_length s).symm
theorem size_bsOf (l : Bs) : (bsOf l).size = l.length := by rw [size_len]; rfl
theorem extract_list (s : ByteArray) (a b : Nat) : (s.extract a b).data.toList = (s.data.toList.take b).drop a := by
  simp [List.drop_take]
theorem append_list (s t : ByteArray) : (s ++ t).data.toList = s.data.toList ++ t.data.toList := by simp
theorem bt_get (s : ByteArray) (i : Nat) (h : i < s.size) : bt s (i : Int) = ((s.data.toList.getD i 0).toNat : Int) := by
  have h' : i < s.data.toList.length := by rw [← size_len]; exact h
  unfold bt
  rw [dif_pos (by simpa using h), List.getD_eq_getElem?_getD, List.getElem?_eq_getElem h']
  simp
  rfl
def lowC (c : UInt8) : UInt8 := if 65 ≤ c ∧ c ≤ 90 then c + 32 else c
def lowL (l : Bs) : Bs := l.map lowC
theorem strOfNums_bytes (l : Bs) : strOfNums (l.map fun b => (b.toNat : Int)) = bsOf l := by
  unfold strOfNums bsOf
  congr 1
  congr 1
  rw [List.map_map]
  conv => rhs; rw [← List.map_id l]
  apply List.map_congr_left
  intro b _
  simp
theorem lowI_lowC (c : UInt8) : lowI (c.toNat : Int) = ((lowC c).toNat : Int) := by
  unfold lowI lowC
  have hc := c.toNat_lt
  simp only [UInt8.le_iff_toNat_le, UInt8.toNat_ofNat]
  by_cases h : 65 ≤ c.toNat ∧ c.toNat ≤ 90
  · rw [if_pos (by omega), if_pos (by simpa using h)]
    simp [UInt8.toNat_add]
    omega
  · rw [if_neg (by omega), if_neg (by simpa using h)]
theorem lowS_eq (s : ByteArray) : lowS s = bsOf (lowL s.data.toList) := by
  unfold lowS lowL
  rw [← strOfNums_bytes]
  congr 1
  apply List.ext_getElem?
  intro i
  simp only [bytesOf, List.getElem?_mapIdx, List.getElem?_map]
  cases s.data.toList[i]? with
  | none => rfl
  | some c => simp [lowI_lowC]
theorem lower_f (s : ByteArray) (h : s.size ≤ 9223372036854775807) : octet_Lower.f s = some (bsOf (lowL s.data.toList)) := by
  unfold octet_Lower.f
  rw [if_pos h, lowS_eq]
theorem evSucc {α : Type} {g : Nat → Option α} {r : α} (h : Ev (fun k => g (k + 1)) r) : Ev g r := Ev.step (fun _ => rfl) h
theorem evEq {α : Type} {g : Nat → Option α} {r r' : α} (h : Ev g r) (e : r = r') : Ev g r' := e ▸ h
theorem evPos {α : Type} {c : Prop} [Decidable c] {g h : Nat → Option α} {r : α} (hc : c) (hg : Ev g r) : Ev (fun k => if c then g k else h k) r := by
  simp only [if_pos hc]
  exact hg
theorem evNeg {α : Type} {c : Prop} [Decidable c] {g h : Nat → Option α} {r : α} (hc : ¬ c) (hg : Ev h r) : Ev (fun k => if c then g k else h k) r := by
  simp only [if_neg hc]
  exact hg
theorem evBind {α β : Type} {a : Option α} {x : α} {f : Nat → α → Option β} {r : β} (h : a = some x) (k : Ev (fun n => f n x) r) : Ev (fun n => a.bind (f n)) r := by
  subst h
  exact k
theorem evIte {α : Type} {c : Prop} [Decidable c] {g h : Nat → Option α} {r s : α} (hp : c → Ev g r) (hn : ¬ c → Ev h s) : Ev (fun k => if c then g k else h k) (if c then r else s) := by
  by_cases hc : c
  · rw [if_pos hc]; exact evPos hc (hp hc)
  · rw [if_neg hc]; exact evNeg hc (hn hc)
def lowB (s : ByteArray) : ByteArray := bsOf (lowL s.data.toList)
theorem lowB_data (s : ByteArray) : (lowB s).data.toList = lowL s.data.toList := rfl
theorem lowB_size (s : ByteArray) : (lowB s).size = s.size := by
  unfold lowB lowL
  rw [size_bsOf, List.length_map, size_len]
theorem rdOf_get (l : List ByteArray) (i : Nat) (h : i < l.length) : rdOf ByteArray.empty l (i : Int) = l[i] := by
  simp [rdOf, List.getD_eq_getElem?_getD, h]
def isDig (c : UInt8) : Bool := decide ((c.toNat : Int) ≥ 48) && decide ((c.toNat : Int) ≤ 57)
theorem digit_f (c : UInt8) : octet_digit.f (c.toNat : Int) = some (isDig c) := by
  unfold octet_digit.f isDig
  by_cases h : (c.toNat : Int) ≥ 48
  · rw [if_pos h]; simp only [h, decide_true, Bool.true_and]
  · rw [if_neg h]; simp only [h, decide_false, Bool.false_and]
def digStep (n : Int) (c : UInt8) : Int :=
  if n > (18446744073709551615 - (((c.toNat : Int) - 48) % 256)) / 10 then 18446744073709551615 else IntKind.u64.wrap ((IntKind.u64.wrap (n * 10)) + (((c.toNat : Int) - 48) % 256))
def digGo : Int → Bs → Option Int
  | n, [] => some n
  | n, c :: r => if isDig c = true then digGo (digStep n c) r else none
def digS (s : ByteArray) : Int × Bool := match digGo 0 s.data.toList with
  | some n => (n, s.data.toList != [])
  | none => (0, false)
theorem bt_mid (s : ByteArray) (p : Bs) (c : UInt8) (r : Bs) (h : s.data.toList = p ++ c :: r) : bt s (p.length : Int) = (c.toNat : Int) := by
  rw [bt_get s p.length (by rw [size_len, h]; simp), h]
  simp [List.getD_eq_getElem?_getD]
theorem digits_l0 (s : ByteArray) (hs : s.size ≤ 4611686018427387904) (r : Bs) : ∀ (p : Bs) (n : Int), s.data.toList = p ++ r → 
    Ev (fun k => octet_Digits.l0 k s n (s.size : Int) (p.length : Int)) (match digGo n r with | some n => (n, s.data.toList != []) | none => (0, false)) := by
  induction r with
  | nil =>
    intro p n hp
    have hl : s.size = p.length := by rw [size_len, hp]; simp
    refine evSucc ?_
    simp only [octet_Digits.l0]
    refine evNeg (by omega) (evEq (Ev.now _) ?_)
    rw [tl]
    rfl
  | cons c r ih =>
    intro p n hp
    have hl : s.size = p.length + (r.length + 1) := by rw [size_len, hp]; simp
    have hb := bt_mid s p c r hp
    have e2 : wrap64 ((p.length : Int) + 1) = ((p ++ [c]).length : Int) := by simp; unfold wrap64; omega
    refine evSucc ?_
    simp only [octet_Digits.l0, hb, e2]
    refine evPos (by omega) (evPos (by omega) (evPos (by omega) (evBind (digit_f c) ?_)))
    rw [digGo]
    cases hd : isDig c with
    | true =>
      refine evPos rfl ?_
      simp only [if_true]
      by_cases hg : n > (18446744073709551615 - (((c.toNat : Int) - 48) % 256)) / 10
      · refine evPos hg ?_
        have := ih (p ++ [c]) (digStep n c) (by simpa using hp)
        rw [show digStep n c = 18446744073709551615 by unfold digStep; rw [if_pos hg]] at this ⊢
        exact this
      · refine evNeg hg ?_
        have := ih (p ++ [c]) (digStep n c) (by simpa using hp)
        rw [show digStep n c = IntKind.u64.wrap ((IntKind.u64.wrap (n * 10)) + (((c.toNat : Int) - 48) % 256)) by unfold digStep; rw [if_neg hg]] at this ⊢
        exact this
    | false =>
      refine evNeg (by decide) (evEq (Ev.now _) ?_)
      simp
theorem digits_ev (s : ByteArray) (hs : s.size ≤ 4611686018427387904) : Ev (fun k => octet_Digits.f k s) (digS s) := by
  have := digits_l0 s hs s.data.toList [] 0 rfl
  simpa [octet_Digits.f, digS] using this
theorem indexByte_at (p r : Bs) (c : UInt8) (h : c ∉ p) : Lib.indexByte (p ++ c :: r) c = (p.length : Int) := by
  induction p with
  | nil => simp [Lib.indexByte]
  | cons b p ih =>
    have hb : (b == c) = false := by
      simp only [beq_eq_false_iff_ne]
      intro e
      exact h (by simp [e])
    have := ih (fun hc => h (by simp [hc]))
    rw [List.cons_append, Lib.indexByte, hb, this]
    have h2 : (((p.length : Int)) == -1) = false := by
      simp only [beq_eq_false_iff_ne]
      omega
    rw [h2]
    simp
theorem indexByte_not (p : Bs) (c : UInt8) (h : c ∉ p) : Lib.indexByte p c = -1 := by
  induction p with
  | nil => rfl
  | cons b p ih =>
    have hb : (b == c) = false := by
      simp only [beq_eq_false_iff_ne]
      intro e
      exact h (by simp [e])
    have := ih (fun hc => h (by simp [hc]))
    rw [Lib.indexByte, hb, this]
    simp
def numL (n : Nat) : Bs := if h : n > 9 then numL (n / 10) ++ [UInt8.ofNat (48 + n % 10)] else [UInt8.ofNat (48 + n)]
termination_by n
decreasing_by omega
theorem numL_great {n : Nat} (h : n > 9) : numL n = numL (n / 10) ++ [UInt8.ofNat (48 + n % 10)] := by
  rw [numL, dif_pos h]
theorem numL_small {n : Nat} (h : ¬ n > 9) : numL n = [UInt8.ofNat (48 + n)] := by
  rw [numL, dif_neg h]
theorem numL_length : ∀ (k n : Nat), n < 10 ^ (k + 1) → (numL n).length ≤ k + 1 := by
  intro k
  induction k with
  | zero =>
    intro n h
    rw [numL_small (by omega)]
    simp
  | succ k ih =>
    intro n h
    by_cases h9 : n > 9
    · rw [numL_great h9]
      have := ih (n / 10) (by rw [Nat.pow_succ] at h; omega)
      simp
      omega
    · rw [numL_small h9]
      simp
theorem numL_ne (n : Nat) : numL n ≠ [] := by
  by_cases h9 : n > 9
  · rw [numL_great h9]; simp
  · rw [numL_small h9]; simp
def isNum (c : UInt8) : Prop := 48 ≤ c.toNat ∧ c.toNat ≤ 57
theorem num_char (d : Nat) (h : d < 10) : (UInt8.ofNat (48 + d)).toNat = 48 + d := by
  rw [UInt8.toNat_ofNat']
  omega
theorem numL_chars (n : Nat) : ∀ c ∈ numL n, isNum c := by
  induction n using Nat.strongRecOn with
  | _ n ih =>
    intro c hc
    by_cases h9 : n > 9
    · rw [numL_great h9] at hc
      rcases List.mem_append.1 hc with hc | hc
      · exact ih (n / 10) (by omega) c hc
      · rw [List.mem_singleton.1 hc]
        unfold isNum
        rw [num_char _ (by omega)]
        omega
    · rw [numL_small h9] at hc
      rw [List.mem_singleton.1 hc]
      unfold isNum
      rw [num_char _ (by omega)]
      omega
theorem u64_wrap (n : Nat) (h : n < 18446744073709551616) : IntKind.u64.wrap (n : Int) = n := by
  rw [show IntKind.u64.wrap (n : Int) = (n : Int) % 18446744073709551616 by simp [IntKind.wrap, IntKind.bits, IntKind.signed]]
  omega
theorem digGo_append (xs : Bs) (c : UInt8) : ∀ n, digGo n (xs ++ [c]) = (digGo n xs).bind fun v => if isDig c = true then some (digStep v c) else none := by
  induction xs with
  | nil =>
    intro n
    simp [digGo]
  | cons x xs ih =>
    intro n
    rw [List.cons_append, digGo, digGo]
    cases isDig x with
    | true => simpa using ih (digStep n x)
    | false => simp
theorem dig_num (d : Nat) (h : d < 10) : isDig (UInt8.ofNat (48 + d)) = true := by
  unfold isDig
  rw [num_char d h]
  simp
  omega
theorem digStep_num (v d : Nat) (h : d < 10) (hv : v * 10 + d < 18446744073709551616) : digStep (v : Int) (UInt8.ofNat (48 + d)) = ((v * 10 + d : Nat) : Int) := by
  unfold digStep
  rw [num_char d h]
  have e1 : ((((48 + d : Nat) : Int) - 48) % 256) = d := by omega
  rw [e1, if_neg (by omega), show ((v : Int) * 10) = ((v * 10 : Nat) : Int) by omega, u64_wrap _ (by omega), show (((v * 10 : Nat) : Int) + (d : Int)) = ((v * 10 + d : Nat) : Int) by omega, u64_wrap _ (by omega)]
theorem digGo_num (n : Nat) : n < 18446744073709551616 → digGo 0 (numL n) = some (n : Int) := by
  induction n using Nat.strongRecOn with
  | _ n ih =>
    intro hn
    by_cases h9 : n > 9
    · rw [numL_great h9, digGo_append, ih (n / 10) (by omega) (by omega)]
      simp only [Option.bind_some]
      rw [if_pos (dig_num _ (by omega)), digStep_num _ _ (by omega) (by omega)]
      congr 2
      omega
    · rw [numL_small h9, digGo, if_pos (dig_num n (by omega))]
      have := digStep_num 0 n (by omega) (by omega)
      rw [show ((0 : Nat) : Int) = 0 from rfl] at this
      rw [this, digGo]
      congr 2
      omega
theorem digGo_zeros (z : Nat) (l : Bs) : digGo 0 (List.replicate z 48 ++ l) = digGo 0 l := by
  induction z with
  | zero => rfl
  | succ z ih =>
    rw [List.replicate_succ, List.cons_append, digGo, if_pos (by decide), show digStep 0 48 = 0 by decide]
    exact ih
def digL (l : Bs) : Int × Bool := match digGo 0 l with
  | some n => (n, l != [])
  | none => (0, false)
theorem digS_L (s : ByteArray) : digS s = digL s.data.toList := rfl
theorem digL_num (z n : Nat) (hn : n < 18446744073709551616) : digL (List.replicate z 48 ++ numL n) = ((n : Int), true) := by
  unfold digL
  rw [digGo_zeros, digGo_num n hn]
  have : (List.replicate z 48 ++ numL n) ≠ [] := by simp [numL_ne n]
  simp [this, numL_ne n]
def splitC (c : UInt8) : Bs → List Bs
  | [] => [[]]
  | b :: l => if b = c then [] :: splitC c l else match splitC c l with
    | [] => [[b]]
    | x :: xs => (b :: x) :: xs
theorem sp_index_at (p r : Bs) (c : UInt8) (h : c ∉ p) : Lib.indexByte (p ++ c :: r) c = (p.length : Int) := by
  induction p with
  | nil => simp [Lib.indexByte]
  | cons b p ih =>
    have hb : (b == c) = false := by
      simp only [beq_eq_false_iff_ne]
      intro e
      exact h (by simp [e])
    have := ih (fun hc => h (by simp [hc]))
    rw [List.cons_append, Lib.indexByte, hb, this]
    have h2 : (((p.length : Int)) == -1) = false := by
      simp only [beq_eq_false_iff_ne]
      omega
    rw [h2]
    simp
theorem sp_index_not (p : Bs) (c : UInt8) (h : c ∉ p) : Lib.indexByte p c = -1 := by
  induction p with
  | nil => rfl
  | cons b p ih =>
    have hb : (b == c) = false := by
      simp only [beq_eq_false_iff_ne]
      intro e
      exact h (by simp [e])
    have := ih (fun hc => h (by simp [hc]))
    rw [Lib.indexByte, hb, this]
    simp
theorem splitC_not (c : UInt8) (l : Bs) (h : c ∉ l) : splitC c l = [l] := by
  induction l with
  | nil => rfl
  | cons b l ih =>
    have hb : ¬ b = c := fun e => h (by simp [e])
    rw [splitC, if_neg hb, ih (fun hc => h (by simp [hc]))]
theorem splitC_at (c : UInt8) (p r : Bs) (h : c ∉ p) : splitC c (p ++ c :: r) = p :: splitC c r := by
  induction p with
  | nil => rw [List.nil_append, splitC, if_pos rfl]
  | cons b p ih =>
    have hb : ¬ b = c := fun e => h (by simp [e])
    rw [List.cons_append, splitC, if_neg hb, ih (fun hc => h (by simp [hc]))]
theorem splitC_ne (c : UInt8) (l : Bs) : splitC c l ≠ [] := by
  cases l with
  | nil => simp [splitC]
  | cons b l =>
    rw [splitC]
    split
    · simp
    · split <;> simp
theorem splitL_data (c : UInt8) : ∀ (k : Nat) (s : ByteArray), Lib.countB s ⟨#[c]⟩ = k → (Lib.splitB ⟨#[c]⟩ 0 k s).map (·.data.toList) = splitC c s.data.toList := by
  intro k
  induction k with
  | zero =>
    intro s hk
    by_cases hm : c ∈ s.data.toList
    · obtain ⟨p, r, e, hp⟩ := List.eq_append_cons_of_mem hm
      have hix : Lib.indexB s ⟨#[c]⟩ = ((p.length : Nat) : Int) := by
        refine (Lib.index_one _ _).trans ?_
        rw [e]
        exact sp_index_at p r c hp
      have := Lib.countB_hit s ⟨#[c]⟩ p.length (Nat.le_refl 1) hix
      omega
    · rw [splitC_not c _ hm]
      rfl
  | succ k ih =>
    intro s hk
    by_cases hm : c ∈ s.data.toList
    · obtain ⟨p, r, e, hp⟩ := List.eq_append_cons_of_mem hm
      have hix : Lib.indexB s ⟨#[c]⟩ = ((p.length : Nat) : Int) := by
        refine (Lib.index_one _ _).trans ?_
        rw [e]
        exact sp_index_at p r c hp
      have hc := Lib.countB_hit s ⟨#[c]⟩ p.length (Nat.le_refl 1) hix
      rw [Lib.splitB_hit _ _ _ s p.length hix, List.map_cons, ih _ (by omega), e, splitC_at c p r hp]
      have e1 : (s.extract 0 (p.length + 0)).data.toList = p := by
        rw [extract_list, e]
        simp
      have e2 : (s.extract (p.length + (⟨#[c]⟩ : ByteArray).size) s.size).data.toList = r := by
        have hz : s.size = (p ++ c :: r).length := by rw [size_len, e]
        rw [show (⟨#[c]⟩ : ByteArray).size = 1 from rfl, extract_list, e, hz, List.take_length]
        simp
      rw [e1, e2]
    · have hix : Lib.indexB s ⟨#[c]⟩ = -1 := (Lib.index_one _ _).trans (sp_index_not _ c hm)
      rw [Lib.splitB_miss _ _ _ s hix, splitC_not c _ hm]
      rfl
theorem cutS_at (s : ByteArray) (p r : Bs) (c : UInt8) (hs : s.data.toList = p ++ c :: r) (h : c ∉ p) : cutS s ⟨#[c]⟩ = (bsOf p, bsOf r, true) := by
  unfold cutS Lib.cut
  have e : Lib.index s.data.toList (⟨#[c]⟩ : ByteArray).data.toList = (p.length : Int) := by
    rw [hs]
    exact (Lib.index_one _ _).trans (indexByte_at p r c h)
  rw [e, if_pos (by omega), hs]
  simp
theorem cutS_not (s : ByteArray) (c : UInt8) (h : c ∉ s.data.toList) : cutS s ⟨#[c]⟩ = (s, ⟨#[]⟩, false) := by
  unfold cutS Lib.cut
  have e : Lib.index s.data.toList (⟨#[c]⟩ : ByteArray).data.toList = -1 := (Lib.index_one _ _).trans (indexByte_not _ c h)
  rw [e, if_neg (by omega)]
  simp only [bsOf_of]
  rfl
theorem cut_f (s sep : ByteArray) (hs : s.size < 4294967281) : strings_Cut.f s sep = some (cutS s sep) := by
  unfold strings_Cut.f
  rw [if_pos hs]
theorem cutS_size (s sep : ByteArray) : (cutS s sep).1.size ≤ s.size ∧ (cutS s sep).2.1.size ≤ s.size := by
  have e := size_len s
  unfold cutS Lib.cut
  split
  · simp only [size_bsOf, List.length_take, List.length_drop]
    omega
  · simp only [size_bsOf, List.length_nil]
    omega
theorem split1_f (s : ByteArray) (c : UInt8) (h : s.size < 4294967281) : strings_Split.f s ⟨#[c]⟩ = some (splitL s ⟨#[c]⟩) := by
  unfold strings_Split.f
  rw [if_pos ⟨h, rfl⟩]
theorem splitL_bs (s : ByteArray) (c : UInt8) : splitL s ⟨#[c]⟩ = (splitC c s.data.toList).map bsOf := by
  have := splitL_data c _ s rfl
  have h2 := congrArg (List.map bsOf) this
  rw [List.map_map] at h2
  rw [← h2]
  simp [splitL, Function.comp_def, bsOf_of]
theorem splitC_count (c : UInt8) (l : Bs) : (splitC c l).length ≤ l.length + 1 := by
  induction l with
  | nil => simp [splitC]
  | cons b l ih =>
    rw [splitC]
    split
    · simpa using ih
    · split
      · simp
      · rename_i x xs e; rw [e] at ih; simp at ih ⊢; omega
theorem splitC_mem (c : UInt8) (l : Bs) : ∀ y ∈ splitC c l, (∀ d ∈ y, d ∈ l ∧ d ≠ c) ∧ y.length ≤ l.length := by
  induction l with
  | nil => intro y hy; rw [splitC, List.mem_singleton] at hy; subst hy; exact ⟨by simp, by simp⟩
  | cons b l ih =>
    intro y hy
    rw [splitC] at hy
    by_cases hb : b = c
    · rw [if_pos hb] at hy
      rcases List.mem_cons.1 hy with rfl | hy
      · exact ⟨by simp, by simp⟩
      · have := ih y hy
        exact ⟨fun d hd => ⟨List.mem_cons_of_mem _ (this.1 d hd).1, (this.1 d hd).2⟩, by simp; omega⟩
    · rw [if_neg hb] at hy
      cases h : splitC c l with
      | nil => exact absurd h (splitC_ne c l)
      | cons x xs =>
        rw [h] at hy
        rcases List.mem_cons.1 hy with rfl | hy
        · have := ih x (by rw [h]; simp)
          refine ⟨fun d hd => ?_, by simp; omega⟩
          rcases List.mem_cons.1 hd with rfl | hd
          · exact ⟨by simp, hb⟩
          · exact ⟨List.mem_cons_of_mem _ (this.1 d hd).1, (this.1 d hd).2⟩
        · have := ih y (by rw [h]; simp [hy])
          exact ⟨fun d hd => ⟨List.mem_cons_of_mem _ (this.1 d hd).1, (this.1 d hd).2⟩, by simp; omega⟩
theorem dec_numL (n : Nat) : Lib.decDigits n = numL n := by
  induction n using Nat.strongRecOn with
  | _ n ih =>
    rw [Lib.decDigits, numL]
    by_cases h : n < 10
    · rw [dif_pos h, dif_neg (by omega)]
    · rw [dif_neg h, dif_pos (by omega), ih (n / 10) (by omega)]
theorem itoa_f (n : Nat) (h : n ≤ 9223372036854775807) : strconv_Itoa.f (n : Int) = some (bsOf (numL n)) := by
  unfold strconv_Itoa.f
  rw [if_pos ⟨by omega, by omega⟩]
  unfold Lib.itoa
  rw [if_neg (by omega), Int.toNat_natCast, dec_numL]
theorem numL_head (n : Nat) (h : 1 ≤ n) : ∃ c l, numL n = c :: l ∧ c ≠ 48 := by
  induction n using Nat.strongRecOn with
  | _ n ih =>
    by_cases h9 : n > 9
    · obtain ⟨c, l, e, hc⟩ := ih (n / 10) (by omega) (by omega)
      exact ⟨c, l ++ [UInt8.ofNat (48 + n % 10)], by rw [numL_great h9, e]; rfl, hc⟩
    · refine ⟨UInt8.ofNat (48 + n), [], numL_small h9, fun e => ?_⟩
      have := congrArg UInt8.toNat e
      rw [num_char n (by omega)] at this
      have h48 : (48 : UInt8).toNat = 48 := rfl
      omega
theorem lowL_id (l : Bs) (h : ∀ c ∈ l, lowC c = c) : lowL l = l := by
  unfold lowL
  conv => rhs; rw [← List.map_id l]
  exact List.map_congr_left h
def defP (s : ByteArray) : Int := if s.toList = ([104, 116, 116, 112] : List UInt8) then 80 else if s.toList = ([104, 116, 116, 112, 115] : List UInt8) then 443 else 0
theorem def_f (s : ByteArray) : origin_Default.f s = some (defP s) := by
  unfold origin_Default.f defP
  split
  · rfl
  · split <;> rfl
def labC (c : UInt8) : Bool := decide ((97 ≤ c.toNat ∧ c.toNat ≤ 122) ∨ (48 ≤ c.toNat ∧ c.toNat ≤ 57) ∨ c.toNat = 45)
theorem lab_if (c : UInt8) (X : Nat → Option Bool) (r : Bool) (hX : Ev X r) :
    Ev (fun k => if (c.toNat : Int) < 97 then (if (c.toNat : Int) < 48 then (if (c.toNat : Int) = 45 then X k else some false) else (if (c.toNat : Int) > 57 then (if (c.toNat : Int) = 45 then X k else some false) else X k)) else (if (c.toNat : Int) > 122 then (if (c.toNat : Int) < 48 then (if (c.toNat : Int) = 45 then X k else some false) else (if (c.toNat : Int) > 57 then (if (c.toNat : Int) = 45 then X k else some false) else X k)) else X k)) (labC c && r) := by
  have yes : ((97 ≤ c.toNat ∧ c.toNat ≤ 122) ∨ (48 ≤ c.toNat ∧ c.toNat ≤ 57) ∨ c.toNat = 45) → Ev X (labC c && r) := fun h => by
    unfold labC
    rw [decide_eq_true h, Bool.true_and]
    exact hX
  have no : ¬ ((97 ≤ c.toNat ∧ c.toNat ≤ 122) ∨ (48 ≤ c.toNat ∧ c.toNat ≤ 57) ∨ c.toNat = 45) → Ev (fun _ : Nat => some false) (labC c && r) := fun h => by
    unfold labC
    rw [decide_eq_false h, Bool.false_and]
    exact Ev.now _
  by_cases h1 : (c.toNat : Int) < 97
  · refine evPos h1 ?_
    by_cases h2 : (c.toNat : Int) < 48
    · refine evPos h2 ?_
      by_cases h3 : (c.toNat : Int) = 45
      · exact evPos h3 (yes (by omega))
      · exact evNeg h3 (no (by omega))
    · refine evNeg h2 ?_
      by_cases h3 : (c.toNat : Int) > 57
      · exact evPos h3 (evNeg (by omega) (no (by omega)))
      · exact evNeg h3 (yes (by omega))
  · refine evNeg h1 ?_
    by_cases h2 : (c.toNat : Int) > 122
    · exact evPos h2 (evNeg (by omega) (evPos (by omega) (evNeg (by omega) (no (by omega)))))
    · exact evNeg h2 (yes (by omega))
def labB (s : ByteArray) : Bool := if (s.size : Int) < 1 then false else if (s.size : Int) > 63 then false else if bt s 0 = 45 then false else if bt s ((s.size - 1 : Nat) : Int) = 45 then false else s.data.toList.all labC
theorem label_l0 (s : ByteArray) (hs : s.size ≤ 4611686018427387904) (r : Bs) : ∀ p : Bs, s.data.toList = p ++ r → Ev (fun k => origin_isLabel.l0 k s (s.size : Int) (p.length : Int)) (r.all labC) := by
  induction r with
  | nil =>
    intro p hp
    have hl : s.size = p.length := by rw [size_len, hp]; simp
    refine evSucc ?_
    simp only [origin_isLabel.l0]
    exact evNeg (by omega) (Ev.now _)
  | cons c r ih =>
    intro p hp
    have hl : s.size = p.length + (r.length + 1) := by rw [size_len, hp]; simp
    have hb := bt_mid s p c r hp
    have e2 : wrap64 ((p.length : Int) + 1) = ((p ++ [c]).length : Int) := by simp; unfold wrap64; omega
    have ih' := ih (p ++ [c]) (by rw [hp]; simp)
    refine evSucc ?_
    simp only [origin_isLabel.l0, hb, e2]
    rw [List.all_cons]
    exact evPos (by omega) (evPos (by omega) (evPos (by omega) (lab_if c _ _ ih')))
theorem label_ev (s : ByteArray) (hs : s.size ≤ 4611686018427387904) : Ev (fun k => origin_isLabel.f k s) (labB s) := by
  have jt : Ev (fun k => origin_isLabel.j0 k s true) false := by
    refine evSucc ?_
    simp only [origin_isLabel.j0, if_true]
    exact Ev.now _
  unfold origin_isLabel.f labB
  refine evIte (fun _ => jt) fun h1 => evIte (fun _ => jt) fun h2 => evPos (by omega) (evIte (fun _ => jt) fun h3 => ?_)
  have e1 : wrap64 ((s.size : Int) - 1) = ((s.size - 1 : Nat) : Int) := by unfold wrap64; omega
  rw [e1]
  refine evPos (by omega) (evPos (by omega) ?_)
  by_cases h4 : bt s ((s.size - 1 : Nat) : Int) = 45
  · rw [h4, if_pos rfl]
    exact jt
  · rw [if_neg h4, show (bt s ((s.size - 1 : Nat) : Int) == 45) = false by simpa using h4]
    refine evSucc ?_
    simp only [origin_isLabel.j0, Bool.false_eq_true, if_false]
    exact label_l0 s hs s.data.toList [] rfl
def hostB (s : ByteArray) : Bool := if (s.size : Int) > 253 then false else ((splitC 46 s.data.toList).map bsOf).all labB
theorem host_l0 (L : List ByteArray) (hL : L.length ≤ 1000000) (hs : ∀ x ∈ L, x.size ≤ 1000000) : ∀ n i, i + n = L.length → Ev (fun k => origin_isHost.l0 k L (L.length : Int) (i : Int)) ((L.drop i).all labB) := by
  intro n
  induction n with
  | zero =>
    intro i hi
    rw [List.drop_of_length_le (by omega), List.all_nil]
    refine evSucc ?_
    simp only [origin_isHost.l0]
    exact evNeg (by omega) (Ev.now _)
  | succ n ih =>
    intro i hi
    have hlt : i < L.length := by omega
    have e2 : wrap64 ((i : Int) + 1) = ((i + 1 : Nat) : Int) := by unfold wrap64; omega
    have hz := hs _ (List.getElem_mem hlt)
    rw [List.drop_eq_getElem_cons hlt, List.all_cons]
    refine evSucc ?_
    simp only [origin_isHost.l0, e2]
    rw [rdOf_get _ _ hlt]
    refine evPos (by omega) (evPos (by omega) (evPos (by omega) (Ev.bind (label_ev _ (by omega)) ?_)))
    cases labB L[i] with
    | true => rw [Bool.true_and]; exact evPos rfl (ih (i + 1) (by omega))
    | false => rw [Bool.false_and]; exact evNeg (by decide) (Ev.now _)
theorem host_ev (s : ByteArray) (hs : s.size ≤ 100000) : Ev (fun k => origin_isHost.f k s) (hostB s) := by
  unfold origin_isHost.f hostB
  refine evIte (fun _ => Ev.now _) fun h => evBind (split1_f s 46 (by omega)) ?_
  rw [splitL_bs]
  have h1 := splitC_count 46 s.data.toList
  rw [← size_len] at h1
  have := host_l0 ((splitC 46 s.data.toList).map bsOf) (by simp; omega) (fun x hx => by
    obtain ⟨y, hy, rfl⟩ := List.mem_map.1 hx
    have := (splitC_mem 46 _ y hy).2
    rw [size_bsOf]
    rw [← size_len] at this
    omega) ((splitC 46 s.data.toList).map bsOf).length 0 (by omega)
  simpa using this
def chkS (a b : ByteArray) (p : Int) : Bool := if defP a = 0 then false else if hostB b = true then (if p ≥ 1 then decide (p ≤ 65535) else false) else false
theorem chk_ev (a b : ByteArray) (p : Int) (hb : b.size ≤ 100000) : Ev (fun k => origin_Check.f k a b p) (chkS a b p) := by
  unfold origin_Check.f chkS
  exact evBind (def_f a) (evIte (fun _ => Ev.now _) fun _ => Ev.bind (host_ev b hb) (evIte (fun _ => evIte (fun _ => Ev.now _) fun _ => Ev.now _) fun _ => Ev.now _))
theorem digStep_nonneg (n : Int) (c : UInt8) : 0 ≤ digStep n c := by
  unfold digStep
  split
  · omega
  · rw [show ∀ x : Int, IntKind.u64.wrap x = x % 18446744073709551616 from fun x => by simp [IntKind.wrap, IntKind.bits, IntKind.signed]]
    omega
theorem digGo_nonneg (l : Bs) : ∀ n v, 0 ≤ n → digGo n l = some v → 0 ≤ v := by
  induction l with
  | nil => intro n v h0 h; rw [digGo] at h; injection h with h; omega
  | cons c l ih =>
    intro n v h0 h
    rw [digGo] at h
    split at h
    · exact ih _ v (digStep_nonneg n c) h
    · cases h
theorem digS_nonneg (s : ByteArray) : 0 ≤ (digS s).1 := by
  unfold digS
  cases h : digGo 0 s.data.toList with
  | none => simp
  | some v => exact digGo_nonneg _ 0 v (by omega) h
theorem digS_pos (s : ByteArray) (h : (digS s).2 = true) : 0 < s.size := by
  rw [size_len]
  unfold digS at h
  cases hg : digGo 0 s.data.toList with
  | none => rw [hg] at h; cases h
  | some v =>
    rw [hg] at h
    cases hl : s.data.toList with
    | nil => rw [hl] at h; simp at h
    | cons c l => simp
def portS (s : ByteArray) : Int := if (digS s).2 = true then (if (s.size : Int) > 5 then 0 else if bt s 0 = 48 then 0 else if (digS s).1 > 65535 then 0 else (digS s).1) else 0
theorem port_ev (s : ByteArray) (hs : s.size ≤ 100000) : Ev (fun k => origin_port.f k s) (portS s) := by
  unfold origin_port.f portS
  refine Ev.bind (digits_ev s (by omega)) (evIte (fun h => evIte (fun _ => Ev.now _) fun _ => evPos (by have := digS_pos s h; omega) (evIte (fun _ => Ev.now _) fun _ => evIte (fun _ => Ev.now _) fun h5 => evEq (Ev.now _) ?_)) fun _ => Ev.now _)
  have h0 := digS_nonneg s
  unfold wrap64
  omega
abbrev OT : Type := ByteArray × ByteArray × Int × Int
def sSep : ByteArray := (⟨#[58, 47, 47]⟩ : ByteArray)
def sCol : ByteArray := (⟨#[58]⟩ : ByteArray)
def noO : OT := (⟨#[]⟩, ⟨#[]⟩, 0, 3)
def madeS (a b : ByteArray) (p : Int) : OT := if chkS a b p = true then (a, b, p, 0) else noO
def parseS (s : ByteArray) : OT :=
  if (s.size : Int) > 512 then (⟨#[]⟩, ⟨#[]⟩, 0, 4)
  else if (cutS (lowB s) sSep).2.2 = true then
    (if (cutS (cutS (lowB s) sSep).2.1 sCol).2.2 = true then madeS (cutS (lowB s) sSep).1 (cutS (cutS (lowB s) sSep).2.1 sCol).1 (portS (cutS (cutS (lowB s) sSep).2.1 sCol).2.1)
     else madeS (cutS (lowB s) sSep).1 (cutS (cutS (lowB s) sSep).2.1 sCol).1 (defP (cutS (lowB s) sSep).1))
  else noO
theorem parse_ev (s : ByteArray) (hs : s.size ≤ 4294967280) : Ev (fun k => origin_Parse.f k s) (parseS s) := by
  unfold origin_Parse.f parseS
  refine evIte (fun _ => Ev.now _) fun h => ?_
  have e1 := lowB_size s
  have c1 := cutS_size (lowB s) sSep
  have c2 := cutS_size (cutS (lowB s) sSep).2.1 sCol
  refine evBind (lower_f s (by omega)) (evBind (cut_f (lowB s) sSep (by omega)) (evIte (fun _ => evBind (cut_f _ sCol (by omega)) (evBind (def_f _) (evIte (fun _ => Ev.bind (port_ev _ (by omega)) (Ev.bind (chk_ev _ _ _ (by omega)) ?_)) fun _ => Ev.bind (chk_ev _ _ _ (by omega)) ?_))) fun _ => Ev.now _))
  · unfold madeS
    exact evIte (fun _ => Ev.now _) fun _ => Ev.now _
  · unfold madeS
    exact evIte (fun _ => Ev.now _) fun _ => Ev.now _
def keyS (a b : ByteArray) (p : Int) : ByteArray := if chkS a b p = true then a ++ sSep ++ b ++ sCol ++ bsOf (numL p.toNat) else ⟨#[]⟩
def showS (a b : ByteArray) (p : Int) : ByteArray := if chkS a b p = true then (if p = defP a then a ++ sSep ++ b else keyS a b p) else keyS a b p
theorem chk_port {a b : ByteArray} {p : Int} (h : chkS a b p = true) : 1 ≤ p ∧ p ≤ 65535 := by
  unfold chkS at h
  split at h
  · cases h
  · split at h
    · split at h
      · rename_i h1; exact ⟨by omega, of_decide_eq_true h⟩
      · cases h
    · cases h
theorem key_ev (a b : ByteArray) (p : Int) (ha : a.size ≤ 100000) (hb : b.size ≤ 100000) : Ev (fun k => origin_Key.f k a b p) (keyS a b p) := by
  unfold origin_Key.f keyS
  refine Ev.bind (chk_ev a b p hb) (evIte (fun h => ?_) fun _ => Ev.now _)
  obtain ⟨p1, p2⟩ := chk_port h
  obtain ⟨n, rfl⟩ := Int.eq_ofNat_of_zero_le (show 0 ≤ p by omega)
  have z1 : (a ++ sSep).size = a.size + 3 := by rw [ByteArray.size_append]; rfl
  have z2 : (a ++ sSep ++ b).size = a.size + 3 + b.size := by rw [ByteArray.size_append, z1]
  have z3 : (a ++ sSep ++ b ++ sCol).size = a.size + 3 + b.size + 1 := by rw [ByteArray.size_append, z2]; rfl
  have hl := numL_length 19 n (by omega)
  have z4 : (bsOf (numL n)).size = (numL n).length := size_bsOf _
  refine evPos (by omega) (evPos (by show (a ++ sSep).size + b.size ≤ _; omega) (evPos (by show (a ++ sSep ++ b).size + 1 ≤ _; omega) (evBind (itoa_f n (by omega)) (evPos (by show (a ++ sSep ++ b ++ sCol).size + _ ≤ _; omega) (Ev.now _)))))
theorem show_ev (a b : ByteArray) (p : Int) (ha : a.size ≤ 100000) (hb : b.size ≤ 100000) : Ev (fun k => origin_Show.f k a b p) (showS a b p) := by
  unfold origin_Show.f showS
  have z1 : (a ++ sSep).size = a.size + 3 := by rw [ByteArray.size_append]; rfl
  refine Ev.bind (chk_ev a b p hb) (evIte (fun h => evBind (def_f a) (evIte (fun _ => evPos (by omega) (evPos (by show (a ++ sSep).size + b.size ≤ _; omega) (Ev.now _))) fun _ => Ev.bind (key_ev a b p ha hb) (Ev.now _))) fun _ => Ev.bind (key_ev a b p ha hb) (Ev.now _))
theorem splitC_chars (c : UInt8) (P : UInt8 → Prop) (l : Bs) (h : ∀ y ∈ splitC c l, ∀ d ∈ y, P d) : ∀ d ∈ l, d = c ∨ P d := by
  induction l with
  | nil => intro d hd; cases hd
  | cons b l ih =>
    rw [splitC] at h
    by_cases hb : b = c
    · rw [if_pos hb] at h
      intro d hd
      rcases List.mem_cons.1 hd with rfl | hd
      · exact .inl hb
      · exact ih (fun y hy => h y (by simp [hy])) d hd
    · rw [if_neg hb] at h
      cases hs : splitC c l with
      | nil => exact absurd hs (splitC_ne c l)
      | cons x xs =>
        rw [hs] at h ih
        have h1 := h (b :: x) (by simp)
        intro d hd
        rcases List.mem_cons.1 hd with rfl | hd
        · exact .inr (h1 d (by simp))
        · refine ih (fun y hy => ?_) d hd
          rcases List.mem_cons.1 hy with rfl | hy
          · exact fun e he => h1 e (by simp [he])
          · exact h y (by simp [hy])
theorem host_chars {s : ByteArray} (h : hostB s = true) : s.size ≤ 253 ∧ ∀ d ∈ s.data.toList, d = 46 ∨ labC d = true := by
  unfold hostB at h
  split at h
  · cases h
  · rename_i h1
    refine ⟨by omega, splitC_chars 46 (fun d => labC d = true) _ fun y hy d hd => ?_⟩
    have := List.all_eq_true.1 h (bsOf y) (List.mem_map.2 ⟨y, hy, rfl⟩)
    unfold labB at this
    repeat' split at this
    all_goals first | cases this | exact List.all_eq_true.1 this d hd
theorem chk_def {a b : ByteArray} {p : Int} (h : chkS a b p = true) : (a.data.toList = ([104, 116, 116, 112] : List UInt8) ∨ a.data.toList = ([104, 116, 116, 112, 115] : List UInt8)) ∧ hostB b = true := by
  unfold chkS at h
  split at h
  · cases h
  · rename_i h1
    split at h
    · rename_i h2
      refine ⟨?_, h2⟩
      unfold defP at h1
      split at h1
      · rename_i h3; exact .inl (by rw [← h3, tl])
      · split at h1
        · rename_i h3; exact .inr (by rw [← h3, tl])
        · exact absurd rfl h1
    · cases h
theorem lab_low (d : UInt8) (h : d = 46 ∨ labC d = true) : lowC d = d ∧ d ≠ 58 := by
  have hn : ¬ (65 ≤ d.toNat ∧ d.toNat ≤ 90) ∧ d.toNat ≠ 58 := by
    rcases h with rfl | h
    · decide
    · have := of_decide_eq_true h
      omega
  refine ⟨?_, fun e => hn.2 (by rw [e]; rfl)⟩
  unfold lowC
  rw [if_neg]
  intro h2
  exact hn.1 (by simpa [UInt8.le_iff_toNat_le] using h2)
theorem num_low (d : UInt8) (h : isNum d) : lowC d = d ∧ d ≠ 58 := by
  refine ⟨?_, fun e => ?_⟩
  · unfold lowC
    rw [if_neg]
    intro h2
    have : 65 ≤ d.toNat := by simpa [UInt8.le_iff_toNat_le] using h2.1
    unfold isNum at h
    omega
  · subst e
    unfold isNum at h
    have : (58 : UInt8).toNat = 58 := rfl
    omega
theorem cut_sep (s : ByteArray) (A R : Bs) (hA : A = ([104, 116, 116, 112] : List UInt8) ∨ A = ([104, 116, 116, 112, 115] : List UInt8)) (hs : s.data.toList = A ++ (([58, 47, 47] : List UInt8) ++ R)) : cutS s sSep = (bsOf A, bsOf R, true) := by
  unfold cutS Lib.cut
  rw [hs]
  have hsep : sSep.data.toList = ([58, 47, 47] : List UInt8) := rfl
  rw [hsep]
  rcases hA with rfl | rfl
  · have e : Lib.index (([104, 116, 116, 112] : List UInt8) ++ (([58, 47, 47] : List UInt8) ++ R)) ([58, 47, 47] : List UInt8) = 4 := by simp [Lib.index, List.isPrefixOf]
    rw [e]
    rfl
  · have e : Lib.index (([104, 116, 116, 112, 115] : List UInt8) ++ (([58, 47, 47] : List UInt8) ++ R)) ([58, 47, 47] : List UInt8) = 5 := by simp [Lib.index, List.isPrefixOf]
    rw [e]
    rfl
theorem low_all (s : ByteArray) (h : ∀ c ∈ s.data.toList, lowC c = c) : lowB s = s := by
  apply ba_ext
  rw [lowB_data, lowL_id _ h]
theorem low_sch (A : Bs) (hA : A = ([104, 116, 116, 112] : List UInt8) ∨ A = ([104, 116, 116, 112, 115] : List UInt8)) : ∀ c ∈ A ++ ([58, 47, 47] : List UInt8), lowC c = c := by
  rcases hA with rfl | rfl <;> decide
theorem portS_num (n : Nat) (h1 : 1 ≤ n) (h2 : n ≤ 65535) : portS (bsOf (numL n)) = n := by
  have hd : digS (bsOf (numL n)) = ((n : Int), true) := by
    rw [digS_L, bsOf_data]
    exact digL_num 0 n (by omega)
  obtain ⟨c, l, e, hc⟩ := numL_head n h1
  have hl := numL_length 4 n (by omega)
  have hb : bt (bsOf (numL n)) 0 = (c.toNat : Int) := bt_mid (bsOf (numL n)) [] c l (by rw [bsOf_data, e]; rfl)
  unfold portS
  rw [hd, if_pos rfl, if_neg (by rw [size_bsOf]; omega), if_neg, if_neg (by show ¬ (n : Int) > 65535; omega)]
  rw [hb]
  intro h
  refine hc (UInt8.toNat_inj.1 ?_)
  have : (48 : UInt8).toNat = 48 := rfl
  omega
theorem parse_key {a b : ByteArray} {p : Int} (h : chkS a b p = true) : parseS (keyS a b p) = (a, b, p, 0) := by
  obtain ⟨ha, hb⟩ := chk_def h
  obtain ⟨hz, hch⟩ := host_chars hb
  obtain ⟨p1, p2⟩ := chk_port h
  obtain ⟨n, rfl⟩ := Int.eq_ofNat_of_zero_le (show 0 ≤ p by omega)
  have hl := numL_length 4 n (by omega)
  have hd : (keyS a b (n : Int)).data.toList = a.data.toList ++ (([58, 47, 47] : List UInt8) ++ (b.data.toList ++ 58 :: numL n)) := by
    unfold keyS
    rw [if_pos h, append_list, append_list, append_list, append_list]
    show ((a.data.toList ++ ([58, 47, 47] : List UInt8)) ++ b.data.toList ++ [58]) ++ numL n = _
    simp
  have hlow : lowB (keyS a b (n : Int)) = keyS a b (n : Int) := by
    refine low_all _ fun c hc => ?_
    rw [hd, ← List.append_assoc] at hc
    rcases List.mem_append.1 hc with hc | hc
    · exact low_sch _ ha c hc
    · rcases List.mem_append.1 hc with hc | hc
      · exact (lab_low c (hch c hc)).1
      · rcases List.mem_cons.1 hc with rfl | hc
        · decide
        · exact (num_low c (numL_chars n c hc)).1
  have hsz : (keyS a b (n : Int)).size ≤ 512 := by
    rw [size_len, hd]
    have : a.data.toList.length ≤ 5 := by rcases ha with e | e <;> rw [e] <;> decide
    rw [← size_len] at this
    simp
    omega
  have c1 := cut_sep (keyS a b (n : Int)) _ _ ha hd
  have c2 : cutS (bsOf (b.data.toList ++ 58 :: numL n)) sCol = (bsOf b.data.toList, bsOf (numL n), true) :=
    cutS_at _ _ _ 58 rfl (fun hm => (lab_low 58 (hch 58 hm)).2 rfl)
  unfold parseS
  rw [if_neg (by omega), hlow, c1]
  dsimp only
  rw [if_pos rfl, c2]
  dsimp only
  rw [if_pos rfl, bsOf_of, bsOf_of, portS_num n (by omega) (by omega)]
  unfold madeS
  rw [if_pos h]
theorem parse_show {a b : ByteArray} {p : Int} (h : chkS a b p = true) : parseS (showS a b p) = (a, b, p, 0) := by
  by_cases hp : p = defP a
  · obtain ⟨ha, hb⟩ := chk_def h
    obtain ⟨hz, hch⟩ := host_chars hb
    have e : showS a b p = a ++ sSep ++ b := by unfold showS; rw [if_pos h, if_pos hp]
    have hd : (a ++ sSep ++ b).data.toList = a.data.toList ++ (([58, 47, 47] : List UInt8) ++ b.data.toList) := by
      rw [append_list, append_list]
      show (a.data.toList ++ ([58, 47, 47] : List UInt8)) ++ b.data.toList = _
      simp
    have hlow : lowB (a ++ sSep ++ b) = a ++ sSep ++ b := by
      refine low_all _ fun c hc => ?_
      rw [hd, ← List.append_assoc] at hc
      rcases List.mem_append.1 hc with hc | hc
      · exact low_sch _ ha c hc
      · exact (lab_low c (hch c hc)).1
    have hsz : (a ++ sSep ++ b).size ≤ 512 := by
      rw [size_len, hd]
      have : a.data.toList.length ≤ 5 := by rcases ha with e | e <;> rw [e] <;> decide
      rw [← size_len] at this
      simp
      omega
    have c1 := cut_sep (a ++ sSep ++ b) _ _ ha hd
    have c2 : cutS (bsOf b.data.toList) sCol = (bsOf b.data.toList, ⟨#[]⟩, false) := cutS_not _ 58 (fun hm => (lab_low 58 (hch 58 hm)).2 rfl)
    rw [e]
    unfold parseS
    rw [if_neg (by omega), hlow, c1]
    dsimp only
    rw [if_pos rfl, c2]
    dsimp only
    rw [if_neg (by decide), bsOf_of, bsOf_of, ← hp]
    unfold madeS
    rw [if_pos h]
  · have e : showS a b p = keyS a b p := by unfold showS; rw [if_pos h, if_neg hp]
    rw [e]
    exact parse_key h
theorem chk_size {a b : ByteArray} {p : Int} (h : chkS a b p = true) : (showS a b p).size ≤ 1000 ∧ (keyS a b p).size ≤ 1000 := by
  have h1 := parse_show h
  have h2 := parse_key h
  refine ⟨?_, ?_⟩
  · rcases Nat.lt_or_ge 1000 (showS a b p).size with hg | hg
    · unfold parseS at h1
      rw [if_pos (by omega)] at h1
      have := congrArg (fun o : OT => o.2.2.2) h1
      cases this
    · exact hg
  · rcases Nat.lt_or_ge 1000 (keyS a b p).size with hg | hg
    · unfold parseS at h2
      rw [if_pos (by omega)] at h2
      have := congrArg (fun o : OT => o.2.2.2) h2
      cases this
    · exact hg
theorem parse_sizes (s : ByteArray) (hs : s.size ≤ 100000) : (parseS s).1.size ≤ 100000 ∧ (parseS s).2.1.size ≤ 100000 := by
  have e1 := lowB_size s
  have c1 := cutS_size (lowB s) sSep
  have c2 := cutS_size (cutS (lowB s) sSep).2.1 sCol
  have z : (⟨#[]⟩ : ByteArray).size = 0 := rfl
  have hm : ∀ a b p, a.size ≤ 100000 → b.size ≤ 100000 → (madeS a b p).1.size ≤ 100000 ∧ (madeS a b p).2.1.size ≤ 100000 := by
    intro a b p ha hb
    unfold madeS noO
    split
    · exact ⟨ha, hb⟩
    · exact ⟨by dsimp only; omega, by dsimp only; omega⟩
  unfold parseS noO
  split
  · exact ⟨by dsimp only; omega, by dsimp only; omega⟩
  · split
    · split
      · exact hm _ _ _ (by omega) (by omega)
      · exact hm _ _ _ (by omega) (by omega)
    · exact ⟨by dsimp only; omega, by dsimp only; omega⟩
def dotV (s : Bs) : Int := if lowL s = ([46] : List UInt8) then 1 else if lowL s = ([37, 50, 101] : List UInt8) then 1 else if lowL s = ([46, 46] : List UInt8) then 2 else if lowL s = ([46, 37, 50, 101] : List UInt8) then 2 else if lowL s = ([37, 50, 101, 46] : List UInt8) then 2 else if lowL s = ([37, 50, 101, 37, 50, 101] : List UInt8) then 2 else 0
theorem dots_ev (x : ByteArray) (h : x.size ≤ 9223372036854775807) : Ev (fun k => target_dots.f k x) (dotV x.data.toList) := by
  have hj : ∀ b : Bool, Ev (fun k => target_dots.j0 k (lowB x) b) (if b = true then 1 else if lowL x.data.toList = ([46, 46] : List UInt8) then 2 else if lowL x.data.toList = ([46, 37, 50, 101] : List UInt8) then 2 else if lowL x.data.toList = ([37, 50, 101, 46] : List UInt8) then 2 else if lowL x.data.toList = ([37, 50, 101, 37, 50, 101] : List UInt8) then 2 else 0) := fun b => by
    refine evSucc ?_
    simp only [target_dots.j0, tl, lowB_data]
    exact evIte (fun _ => Ev.now _) fun _ => evIte (fun _ => Ev.now _) fun _ => evIte (fun _ => Ev.now _) fun _ => evIte (fun _ => Ev.now _) fun _ => evIte (fun _ => Ev.now _) fun _ => Ev.now _
  unfold target_dots.f
  refine evBind (lower_f x h) ?_
  show Ev (fun k => if (lowB x).toList = ([46] : List UInt8) then target_dots.j0 k (lowB x) ((lowB x).toList == ([46] : List UInt8)) else target_dots.j0 k (lowB x) ((lowB x).toList == ([37, 50, 101] : List UInt8))) _
  simp only [tl, lowB_data]
  unfold dotV
  by_cases h1 : lowL x.data.toList = ([46] : List UInt8)
  · rw [if_pos h1]
    refine evPos h1 ?_
    rw [h1]
    exact hj true
  · rw [if_neg h1]
    refine evNeg h1 ?_
    by_cases h2 : lowL x.data.toList = ([37, 50, 101] : List UInt8)
    · rw [if_pos h2, h2]
      exact hj true
    · rw [if_neg h2, show (lowL x.data.toList == ([37, 50, 101] : List UInt8)) = false by simpa using h2]
      exact hj false
theorem dotV_cases (s : Bs) : dotV s = 0 ∨ dotV s = 1 ∨ dotV s = 2 := by
  unfold dotV
  repeat' split
  all_goals simp
theorem dotV_ne {s : Bs} (h : dotV s ≠ 0) : 1 ≤ s.length := by
  cases s with
  | nil => exact absurd (by decide) h
  | cons => simp
def stepK (K : List Bs) (s : Bs) : List Bs := if dotV s = 0 then K ++ [s] else if dotV s = 2 then K.dropLast else K
def endV (parts K : List Bs) : List Bs := if dotV (parts.getLastD []) > 0 then K ++ [[]] else K
def joinV (l : List Bs) : Bs := Lib.join l ([47] : List UInt8)
def trimV (p : Bs) : Bs := match p with
  | [] => []
  | c :: r => if c = 47 then r else c :: r
def keptV (p : Bs) : List Bs := endV (splitC 47 (trimV p)) ((splitC 47 (trimV p)).foldl stepK [])
def cleanV (p : Bs) : Bs := 47 :: joinV (keptV p)
theorem joinV_nil : joinV [] = [] := by simp [joinV, Lib.join, List.intercalate]
theorem joinV_one (a : Bs) : joinV [a] = a := by simp [joinV, Lib.join, List.intercalate, List.intersperse]
theorem joinV_cons (a b : Bs) (l : List Bs) : joinV (a :: b :: l) = a ++ 47 :: joinV (b :: l) := by simp [joinV, Lib.join, List.intercalate, List.intersperse]
def wtV (l : List Bs) : Nat := (l.map fun s => s.length + 1).sum
theorem wtV_append (a b : List Bs) : wtV (a ++ b) = wtV a + wtV b := by simp [wtV]
theorem wtV_cons (a : Bs) (b : List Bs) : wtV (a :: b) = a.length + 1 + wtV b := by simp [wtV]
theorem wtV_one (a : Bs) : wtV [a] = a.length + 1 := by simp [wtV]
theorem wtV_mem {l : List Bs} {s : Bs} (h : s ∈ l) : s.length + 1 ≤ wtV l := by
  induction l with
  | nil => cases h
  | cons a l ih =>
    rw [wtV_cons]
    rcases List.mem_cons.1 h with rfl | h
    · omega
    · have := ih h; omega
theorem wtV_length (l : List Bs) : l.length ≤ wtV l := by
  induction l with
  | nil => simp
  | cons a l ih => rw [wtV_cons, List.length_cons]; omega
theorem joinV_wt (l : List Bs) (h : l ≠ []) : (joinV l).length + 1 = wtV l := by
  induction l with
  | nil => exact absurd rfl h
  | cons a l ih =>
    cases l with
    | nil => rw [joinV_one, wtV_one]
    | cons b l =>
      have := ih (by simp)
      rw [joinV_cons, wtV_cons, List.length_append, List.length_cons]
      omega
theorem joinV_le (l : List Bs) : (joinV l).length ≤ wtV l := by
  cases l with
  | nil => rw [joinV_nil]; exact Nat.zero_le _
  | cons a l => have := joinV_wt (a :: l) (by simp); omega
theorem wtV_split (c : UInt8) (l : Bs) : wtV (splitC c l) = l.length + 1 := by
  induction l with
  | nil => rfl
  | cons b l ih =>
    rw [splitC]
    split
    · rw [wtV_cons, ih]; simp; omega
    · split
      · rename_i e; exact absurd e (splitC_ne c l)
      · rename_i x xs e
        rw [e, wtV_cons] at ih
        rw [wtV_cons, List.length_cons, List.length_cons]
        omega
theorem wtV_dropLast (l : List Bs) : wtV l.dropLast ≤ wtV l := by
  rcases List.eq_nil_or_concat l with rfl | ⟨a, b, rfl⟩
  · exact Nat.le_refl _
  · simp [wtV]
theorem wt_step (K : List Bs) (s : Bs) : wtV (stepK K s) ≤ wtV K + (s.length + 1) := by
  have := wtV_dropLast K
  unfold stepK
  split
  · rw [wtV_append, wtV_one]; omega
  · split <;> omega
theorem wt_fold (L : List Bs) : ∀ K, wtV (L.foldl stepK K) ≤ wtV K + wtV L := by
  induction L with
  | nil => intro K; simp [wtV]
  | cons s L ih =>
    intro K
    have h1 := ih (stepK K s)
    have h2 := wt_step K s
    rw [List.foldl_cons, wtV_cons]
    omega
theorem wt_step0 (K : List Bs) (s : Bs) (h : dotV s ≠ 0) : wtV (stepK K s) ≤ wtV K := by
  have := wtV_dropLast K
  unfold stepK
  rw [if_neg h]
  split <;> omega
theorem getLastD_append (P : List Bs) (x : Bs) : (P ++ [x]).getLastD [] = x := by simp
theorem wt_end (L : List Bs) (hL : L ≠ []) : wtV (endV L (L.foldl stepK [])) ≤ wtV L := by
  rcases List.eq_nil_or_concat L with rfl | ⟨P, x, rfl⟩
  · exact absurd rfl hL
  · rw [List.concat_eq_append]
    have h1 := wt_fold P []
    have h0 : wtV ([] : List Bs) = 0 := rfl
    unfold endV
    rw [getLastD_append, List.foldl_append, wtV_append, wtV_one, List.foldl_cons, List.foldl_nil]
    split
    · rename_i h
      have h2 := wt_step0 (P.foldl stepK []) x (by omega)
      have h3 := dotV_ne (s := x) (by omega)
      rw [wtV_append, wtV_one]
      simp only [List.length_nil]
      omega
    · have h2 := wt_step (P.foldl stepK []) x
      omega
theorem trimV_le (p : Bs) : (trimV p).length ≤ p.length := by
  unfold trimV
  split
  · exact Nat.le_refl _
  · split
    · rw [List.length_cons]; omega
    · exact Nat.le_refl _
theorem end_ne (L : List Bs) (hL : L ≠ []) : endV L (L.foldl stepK []) ≠ [] := by
  rcases List.eq_nil_or_concat L with rfl | ⟨P, x, rfl⟩
  · exact absurd rfl hL
  · rw [List.concat_eq_append]
    unfold endV
    rw [getLastD_append]
    split
    · simp
    · rename_i h
      have h0 : dotV x = 0 := by rcases dotV_cases x with h | h | h <;> omega
      rw [List.foldl_append, List.foldl_cons, List.foldl_nil, stepK, if_pos h0]
      simp
theorem kept_ne (p : Bs) : keptV p ≠ [] := end_ne _ (splitC_ne _ _)
theorem kept_wt (p : Bs) : wtV (keptV p) ≤ p.length + 1 := by
  have h1 := wt_end (splitC 47 (trimV p)) (splitC_ne _ _)
  rw [wtV_split] at h1
  have := trimV_le p
  unfold keptV
  omega
theorem clean_length (p : Bs) : (cleanV p).length ≤ p.length + 1 := by
  have h1 := kept_wt p
  have h2 := joinV_wt _ (kept_ne p)
  unfold cleanV
  rw [List.length_cons]
  omega
theorem join_data (l : List Bs) : joinB (l.map bsOf) (⟨#[47]⟩ : ByteArray) = bsOf (joinV l) := by
  unfold joinB joinV
  rw [List.map_map]
  congr 1
  show Lib.join (l.map fun x => (bsOf x).data.toList) ([47] : List UInt8) = _
  simp [bsOf_data]
theorem join_evV (l : List Bs) (h : wtV l ≤ 100000) : strings_Join.f (l.map bsOf) (⟨#[47]⟩ : ByteArray) = some (bsOf (joinV l)) := by
  have h1 := wtV_length l
  have h2 := joinV_le l
  have h3 : (Lib.join ((l.map bsOf).map (·.data.toList)) ((⟨#[47]⟩ : ByteArray)).data.toList).length = (joinV l).length := by
    have := congrArg (fun s : ByteArray => s.data.toList.length) (join_data l)
    simpa [joinB, bsOf_data] using this
  unfold strings_Join.f
  rw [if_pos ⟨by rw [List.length_map]; omega, by rw [h3]; omega⟩, join_data]
theorem cleanl0_ev (L : List Bs) (hL : L ≠ []) (hw : wtV L ≤ 50000) : ∀ n i (K : List Bs), i + n = L.length → wtV K + wtV (L.drop i) ≤ 60000 →
    Ev (fun k => target_Clean.l0 k (L.map bsOf) (K.map bsOf) (L.map bsOf) (L.length : Int) (i : Int)) (bsOf (47 :: joinV (endV L ((L.drop i).foldl stepK K)))) := by
  have hl := wtV_length L
  intro n
  induction n with
  | zero =>
    intro i K hi hK
    rw [List.drop_of_length_le (by omega)] at hK ⊢
    rw [show wtV ([] : List Bs) = 0 from rfl] at hK
    have hpos : 0 < L.length := List.length_pos_iff.2 hL
    have e1 : wrap64 ((L.length : Int) - 1) = ((L.length - 1 : Nat) : Int) := by unfold wrap64; omega
    have hlt : L.length - 1 < L.length := by omega
    have hlt' : L.length - 1 < (L.map bsOf).length := by simpa using hlt
    have hm : (L.map bsOf).length = L.length := by simp
    have hlast : (L.map bsOf)[L.length - 1] = bsOf (L.getLastD []) := by
      rw [List.getElem_map]
      congr 1
      rw [List.getLastD_eq_getLast?, List.getLast?_eq_getElem?, List.getElem?_eq_getElem hlt]
      rfl
    have hmem : L.getLastD [] ∈ L := by
      rcases List.eq_nil_or_concat L with rfl | ⟨P, x, rfl⟩
      · exact absurd rfl hL
      · simp
    have hz := wtV_mem hmem
    have hd := dots_ev (bsOf (L.getLastD [])) (by rw [size_bsOf]; omega)
    rw [bsOf_data] at hd
    refine evSucc ?_
    simp only [target_Clean.l0, e1, List.foldl_nil, hm]
    rw [rdOf_get _ _ hlt', hlast]
    have hk := wtV_length K
    have hj := joinV_le K
    by_cases h0 : dotV (L.getLastD []) > 0
    · have hjoin := join_evV (K ++ [[]]) (by rw [wtV_append, wtV_one]; simp only [List.length_nil]; omega)
      have hj1 := joinV_le (K ++ [[]])
      rw [wtV_append, wtV_one, List.length_nil] at hj1
      rw [List.map_append] at hjoin
      unfold endV
      rw [if_pos h0]
      exact evNeg (by omega) (evPos (by omega) (evPos (by omega) (Ev.bind hd (evPos h0 (evPos (by rw [List.length_map]; omega) (evBind hjoin (evPos (by rw [size_bsOf]; omega) (evEq (Ev.now _) (ba_ext (by rw [append_list, bsOf_data, bsOf_data]; rfl)))))))))) 
    · have hjoin := join_evV K (by omega)
      unfold endV
      rw [if_neg h0]
      exact evNeg (by omega) (evPos (by omega) (evPos (by omega) (Ev.bind hd (evNeg h0 (evBind hjoin (evPos (by rw [size_bsOf]; omega) (evEq (Ev.now _) (ba_ext (by rw [append_list, bsOf_data, bsOf_data]; rfl)))))))))
  | succ n ih =>
    intro i K hi hK
    have hlt : i < L.length := by omega
    have hlt' : i < (L.map bsOf).length := by simpa using hlt
    have hm : (L.map bsOf).length = L.length := by simp
    have e2 : wrap64 ((i : Int) + 1) = ((i + 1 : Nat) : Int) := by unfold wrap64; omega
    rw [List.drop_eq_getElem_cons hlt, wtV_cons] at hK
    have hk := wtV_length K
    have eK : wrap64 ((K.length : Int) - 1) = (K.length : Int) - 1 := by unfold wrap64; omega
    have m0 : 0 ≤ mx ((K.length : Int) - 1) 0 ∧ mx ((K.length : Int) - 1) 0 ≤ (K.length : Int) := by unfold mx; split <;> omega
    have m1 : (mx ((K.length : Int) - 1) 0).toNat = K.length - 1 := by unfold mx; split <;> omega
    have hd := dots_ev (bsOf L[i]) (by rw [size_bsOf]; omega)
    rw [bsOf_data] at hd
    have hs := wt_step K L[i]
    have IH := ih (i + 1) (stepK K L[i]) (by omega) (by omega)
    rw [List.drop_eq_getElem_cons hlt, List.foldl_cons]
    have eK' : ((K.map bsOf).length : Int) = (K.length : Int) := by simp
    refine evSucc ?_
    simp only [target_Clean.l0, e2, eK', eK]
    rw [rdOf_get _ _ hlt', List.getElem_map, m1]
    unfold stepK at IH ⊢
    by_cases h0 : dotV L[i] = 0
    · rw [if_pos h0] at IH ⊢
      rw [List.map_append] at IH
      exact evPos (by omega) (evPos (by omega) (evPos (by omega) (Ev.bind hd (evPos h0 (evPos (by rw [List.length_map]; omega) IH)))))
    · rw [if_neg h0] at IH ⊢
      by_cases h2 : dotV L[i] = 2
      · rw [if_pos h2] at IH ⊢
        rw [List.map_dropLast, List.dropLast_eq_take, List.length_map] at IH
        exact evPos (by omega) (evPos (by omega) (evPos (by omega) (Ev.bind hd (evNeg h0 (evPos h2 (evPos m0.1 (evPos m0.2 IH)))))))
      · rw [if_neg h2] at IH ⊢
        exact evPos (by omega) (evPos (by omega) (evPos (by omega) (Ev.bind hd (evNeg h0 (evNeg h2 IH)))))
theorem prefix1_f (s : ByteArray) (c : UInt8) : stringslite_HasPrefix.f s ⟨#[c]⟩ = some (s.data.toList.head? == some c) := by
  unfold stringslite_HasPrefix.f
  have h1 : (⟨#[c]⟩ : ByteArray).size = 1 := rfl
  have hz := size_len s
  rw [h1]
  cases hs : s.data.toList with
  | nil =>
    rw [hs] at hz
    simp only [List.length_nil] at hz
    rw [if_neg (by omega)]
    rfl
  | cons b r =>
    rw [hs, List.length_cons] at hz
    rw [if_pos (by omega), if_pos (by omega), if_pos (by omega), tl, tl, extract_list, hs]
    show some ((b :: r).take 1 == [c]) = some (some b == some c)
    by_cases e : b = c
    · subst e; simp
    · rw [show ((b :: r).take 1 == [c]) = false by simpa using e, show (some b == some c) = false by simpa using e]
theorem trim_evV (s : ByteArray) : strings_TrimPrefix.f s (⟨#[47]⟩ : ByteArray) = some (bsOf (trimV s.data.toList)) := by
  unfold strings_TrimPrefix.f stringslite_TrimPrefix.f
  rw [prefix1_f]
  have h1 : ((⟨#[47]⟩ : ByteArray)).size = 1 := rfl
  have hz := size_len s
  rw [h1]
  cases hs : s.data.toList with
  | nil =>
    simp only [Option.bind_some]
    show some s = _
    rw [← bsOf_of s, hs]
    rfl
  | cons b r =>
    rw [hs, List.length_cons] at hz
    simp only [Option.bind_some]
    by_cases e : b = 47
    · subst e
      rw [if_pos (by simp), if_pos (by omega), if_pos (by omega)]
      show some (s.extract ((1 : Nat) : Int).toNat s.size) = some _
      refine congrArg some (ba_ext ?_)
      rw [extract_list, bsOf_data, hs, hz]
      simp [trimV]
    · rw [if_neg (by simpa using e)]
      show some s = _
      rw [← bsOf_of s, hs]
      simp [trimV, e]
theorem clean_ev (s : ByteArray) (h : s.size ≤ 20000) : Ev (fun k => target_Clean.f k s) (bsOf (cleanV s.data.toList)) := by
  have h0 := size_len s
  have h1 := trimV_le s.data.toList
  have h2 := wtV_split 47 (trimV s.data.toList)
  have := cleanl0_ev (splitC 47 (trimV s.data.toList)) (splitC_ne _ _) (by omega) _ 0 [] (Nat.zero_add _) (by simp only [List.drop_zero]; rw [show wtV ([] : List Bs) = 0 from rfl]; omega)
  unfold target_Clean.f
  refine evBind (trim_evV s) (evBind (split1_f _ 47 (by rw [size_bsOf]; omega)) ?_)
  rw [splitL_bs, bsOf_data]
  exact evEq (r := bsOf (47 :: joinV (endV (splitC 47 (trimV s.data.toList)) ((splitC 47 (trimV s.data.toList)).foldl stepK [])))) (by simpa using this) rfl
def allC (m : Bs) (c : UInt8) : Bool := decide (33 ≤ c.toNat) && decide (c.toNat ≤ 126) && !m.contains c
def allV (m s : Bs) : Bool := s.all (allC m)
def notP : Bs := ([34, 35, 60, 62, 63, 92, 94] : List UInt8) ++ [123, 124, 125, 96]
def notQ : Bs := ([34, 35, 60, 62] : List UInt8)
theorem index_has (l : Bs) (c : UInt8) : (Lib.indexByte l c ≥ 0) ↔ c ∈ l := by
  by_cases h : c ∈ l
  · obtain ⟨p, r, e, hp⟩ := List.eq_append_cons_of_mem h
    rw [e, indexByte_at p r c hp]
    simp
  · rw [indexByte_not l c h]
    simp [h]
theorem all_evV (s m : ByteArray) (hs : s.size ≤ 4611686018427387904) : Ev (fun k => target_all.f k s m) (allV m.data.toList s.data.toList) := by
  have key : ∀ r p : Bs, s.data.toList = p ++ r → Ev (fun k => target_all.l0 k s m (s.size : Int) (p.length : Int)) (allV m.data.toList r) := by
    intro r
    induction r with
    | nil =>
      intro p hp
      have hl : s.size = p.length := by rw [size_len, hp]; simp
      refine evSucc ?_
      simp only [target_all.l0]
      exact evNeg (by omega) (Ev.now _)
    | cons c r ih =>
      intro p hp
      have hl : s.size = p.length + (r.length + 1) := by rw [size_len, hp]; simp
      have hb := bt_mid s p c r hp
      have e1 : wrap64 ((p.length : Int) + 1) = ((p ++ [c]).length : Int) := by simp; unfold wrap64; omega
      have hr := ih (p ++ [c]) (by rw [hp]; simp)
      have ec : ((c.toNat : Int)).toNat.toUInt8 = c := by simp
      have hv : allV m.data.toList (c :: r) = (allC m.data.toList c && allV m.data.toList r) := rfl
      have hi := index_has m.data.toList c
      rw [hv]
      refine evSucc ?_
      simp only [target_all.l0, hb, e1]
      unfold allC
      by_cases h1 : (c.toNat : Int) < 33
      · rw [show decide (33 ≤ c.toNat) = false from decide_eq_false (by omega)]
        exact evPos (by omega) (evPos (by omega) (evPos (by omega) (evPos h1 (Ev.now _))))
      · by_cases h2 : (c.toNat : Int) > 126
        · rw [show decide (c.toNat ≤ 126) = false from decide_eq_false (by omega), Bool.and_false]
          exact evPos (by omega) (evPos (by omega) (evPos (by omega) (evNeg h1 (evPos h2 (Ev.now _)))))
        · rw [show decide (33 ≤ c.toNat) = true from decide_eq_true (by omega), show decide (c.toNat ≤ 126) = true from decide_eq_true (by omega)]
          refine evPos (by omega) (evPos (by omega) (evPos (by omega) (evNeg h1 (evNeg h2 (evBind (show strings_IndexByte.f m (c.toNat : Int) = some (Lib.indexByte m.data.toList c) by rw [← congrArg (Lib.indexByte m.data.toList) ec]; rfl) ?_)))))
          by_cases h3 : Lib.indexByte m.data.toList c ≥ 0
          · rw [show m.data.toList.contains c = true by simpa using hi.1 h3]
            exact evPos h3 (Ev.now _)
          · rw [show m.data.toList.contains c = false by simpa using fun x => h3 (hi.2 x)]
            exact evNeg h3 (by simpa using hr)
  unfold target_all.f
  exact key s.data.toList [] rfl
def tshowS (a b : ByteArray) (p : Int) (c d : ByteArray) : ByteArray := showS a b p ++ c ++ d
theorem showS_size (a b : ByteArray) (p : Int) : (showS a b p).size ≤ 1000 := by
  by_cases h : chkS a b p = true
  · exact (chk_size h).1
  · unfold showS keyS
    rw [if_neg h, if_neg h]
    exact Nat.zero_le _
theorem tshow_ev (a b c d : ByteArray) (p : Int) (ha : a.size ≤ 100000) (hb : b.size ≤ 100000) (hc : c.size ≤ 10000000) (hd : d.size ≤ 10000000) : Ev (fun k => target_show.f k a b p c d) (tshowS a b p c d) := by
  have hz := showS_size a b p
  have z1 : (showS a b p ++ c).size = (showS a b p).size + c.size := ByteArray.size_append
  unfold target_show.f
  exact Ev.bind (show_ev a b p ha hb) (evPos (by omega) (evPos (by omega) (Ev.now _)))
def pathB (c : ByteArray) : Bool := if (c.data.toList.head? == some 47) = true then (if allV notP c.data.toList = true then cleanV c.data.toList == c.data.toList else false) else false
def queryB (d : ByteArray) : Bool := if d.data.toList = [] then true else if (d.data.toList.head? == some 63) = true then allV notQ d.data.toList else false
def tchkS (a b : ByteArray) (p : Int) (c d : ByteArray) : Bool := chkS a b p && pathB c && queryB d && decide (((tshowS a b p c d).size : Int) ≤ 512)
theorem hasp_f (s : ByteArray) (c : UInt8) : strings_HasPrefix.f s ⟨#[c]⟩ = some (s.data.toList.head? == some c) := by
  unfold strings_HasPrefix.f
  rw [prefix1_f]
  rfl
theorem tchk_ev (a b c d : ByteArray) (p : Int) (ha : a.size ≤ 100000) (hb : b.size ≤ 100000) (hc : c.size ≤ 20000) (hd : d.size ≤ 20000) : Ev (fun k => target_Check.f k a b p c d) (tchkS a b p c d) := by
  have hj : ∀ x : Bool, Ev (fun k => target_Check.j0 k x a b p c d) (chkS a b p && x && queryB d && decide (((tshowS a b p c d).size : Int) ≤ 512)) := by
    intro x
    have hs := tshow_ev a b c d p ha hb (by omega) (by omega)
    refine evSucc ?_
    simp only [target_Check.j0, tl]
    unfold queryB
    by_cases h1 : d.data.toList = []
    · rw [if_pos h1]
      refine evPos h1 (Ev.bind (chk_ev a b p hb) ?_)
      cases chkS a b p with
      | false => exact evNeg (by decide) (Ev.now _)
      | true =>
        refine evPos rfl ?_
        cases x with
        | false => exact evNeg (by decide) (Ev.now _)
        | true => exact evPos rfl (Ev.bind hs (Ev.now _))
    · rw [if_neg h1]
      refine evNeg h1 (evBind (hasp_f d 63) ?_)
      cases (d.data.toList.head? == some 63) with
      | false =>
        refine evNeg (by decide) (Ev.bind (chk_ev a b p hb) ?_)
        cases chkS a b p with
        | false => exact evNeg (by decide) (Ev.now _)
        | true =>
          refine evPos rfl ?_
          cases x with
          | false => exact evNeg (by decide) (Ev.now _)
          | true => exact evPos rfl (Ev.now _)
      | true =>
        refine evPos rfl (Ev.bind (all_evV d (⟨#[34, 35, 60, 62]⟩ : ByteArray) (by omega)) (Ev.bind (chk_ev a b p hb) ?_))
        show Ev _ (chkS a b p && x && (if true = true then allV notQ d.data.toList else false) && _)
        rw [if_pos rfl]
        cases chkS a b p with
        | false => exact evNeg (by decide) (Ev.now _)
        | true =>
          refine evPos rfl ?_
          cases x with
          | false => exact evNeg (by decide) (Ev.now _)
          | true =>
            refine evPos rfl ?_
            show Ev _ (true && true && allV notQ d.data.toList && _)
            cases h : allV notQ d.data.toList with
            | false => exact evNeg (by rw [show allV ((⟨#[34, 35, 60, 62]⟩ : ByteArray)).data.toList d.data.toList = allV notQ d.data.toList from rfl, h]; decide) (Ev.now _)
            | true => exact evPos h (Ev.bind hs (Ev.now _))
  unfold target_Check.f tchkS pathB
  refine evBind (hasp_f c 47) ?_
  cases (c.data.toList.head? == some 47) with
  | false =>
    rw [if_neg (by decide)]
    exact evNeg (by decide) (hj false)
  | true =>
    rw [if_pos rfl]
    refine evPos rfl (Ev.bind (all_evV c _ (by omega)) ?_)
    show Ev (fun k => if allV notP c.data.toList = true then _ else _) _
    cases allV notP c.data.toList with
    | false =>
      rw [if_neg (by decide)]
      exact evNeg (by decide) (hj false)
    | true =>
      rw [if_pos rfl]
      refine evPos rfl (Ev.bind (clean_ev c hc) ?_)
      rw [tl_beq, bsOf_data]
      exact hj _
def tShowS (a b : ByteArray) (p : Int) (c d : ByteArray) : ByteArray := if tchkS a b p c d = true then tshowS a b p c d else ⟨#[]⟩
theorem tShow_ev (a b c d : ByteArray) (p : Int) (ha : a.size ≤ 100000) (hb : b.size ≤ 100000) (hc : c.size ≤ 20000) (hd : d.size ≤ 20000) : Ev (fun k => target_Show.f k a b p c d) (tShowS a b p c d) := by
  unfold target_Show.f tShowS
  exact Ev.bind (tchk_ev a b c d p ha hb hc hd) (evIte (fun _ => Ev.bind (tshow_ev a b c d p ha hb (by omega) (by omega)) (Ev.now _)) fun _ => Ev.now _)
abbrev UT := ByteArray × ByteArray × Int × ByteArray × ByteArray × Int
def noU (e : Int) : UT := (⟨#[]⟩, ⟨#[]⟩, 0, ⟨#[]⟩, ⟨#[]⟩, e)
def fitU (a b : ByteArray) (p : Int) (c d : ByteArray) : UT := if ((tshowS a b p c d).size : Int) > 512 then noU 4 else (a, b, p, c, d, 0)
def askQ (q : ByteArray × ByteArray × Bool) : ByteArray := if q.2.2 = true then (⟨#[63]⟩ : ByteArray) ++ q.2.1 else ⟨#[]⟩
def urlS (o : OT) (q : ByteArray × ByteArray × Bool) : UT :=
  if allV notP q.1.data.toList = true ∧ allV notQ q.2.1.data.toList = true then fitU o.1 o.2.1 o.2.2.1 (bsOf (cleanV q.1.data.toList)) (askQ q) else noU 3
def endsAt (rest : ByteArray) : Nat := if Lib.indexAny rest.data.toList ([47, 63] : List UInt8) < 0 then rest.size else (Lib.indexAny rest.data.toList ([47, 63] : List UInt8)).toNat
def restU (sch rest : ByteArray) : UT :=
  if (parseS (sch ++ sSep ++ rest.extract 0 (endsAt rest))).2.2.2 = 0 then urlS (parseS (sch ++ sSep ++ rest.extract 0 (endsAt rest))) (cutS (rest.extract (endsAt rest) rest.size) (⟨#[63]⟩ : ByteArray))
  else noU (parseS (sch ++ sSep ++ rest.extract 0 (endsAt rest))).2.2.2
def bodyU (s : ByteArray) : UT := if (cutS s sSep).2.2 = true then restU (cutS s sSep).1 (cutS s sSep).2.1 else noU 3
def tparseS (s : ByteArray) : UT := if (s.size : Int) > 512 then noU 4 else bodyU (cutS s (⟨#[35]⟩ : ByteArray)).1
theorem tparse_j1 (c q : ByteArray) (h x : Bool) (a b : ByteArray) (p : Int) (hc : c.size ≤ 600) (hq : q.size ≤ 600) (ha : a.size ≤ 100000) (hb : b.size ≤ 100000) :
    Ev (fun k => target_Parse.j1 k c q h x a b p) (if x = true then noU 3 else fitU a b p (bsOf (cleanV c.data.toList)) (if h = true then (⟨#[63]⟩ : ByteArray) ++ q else ⟨#[]⟩)) := by
  cases x with
  | true =>
    refine evSucc ?_
    simp only [target_Parse.j1, if_true]
    exact Ev.now _
  | false =>
    have hcl := clean_length c.data.toList
    have hcz := size_len c
    have hz : (bsOf (cleanV c.data.toList)).size ≤ 601 := by rw [size_bsOf]; omega
    refine evSucc ?_
    simp only [target_Parse.j1, Bool.false_eq_true, if_false]
    refine Ev.bind (clean_ev c (by omega)) ?_
    cases h with
    | true =>
      have zq : ((⟨#[63]⟩ : ByteArray) ++ q).size = 1 + q.size := by rw [ByteArray.size_append]; rfl
      rw [if_pos rfl]
      unfold fitU
      exact evPos rfl (evPos (by omega) (Ev.bind (tshow_ev a b _ ((⟨#[63]⟩ : ByteArray) ++ q) p ha hb (by omega) (by omega)) (evIte (fun _ => Ev.now _) fun _ => Ev.now _)))
    | false =>
      rw [if_neg (by decide)]
      unfold fitU
      exact evNeg (by decide) (Ev.bind (tshow_ev a b _ (⟨#[]⟩ : ByteArray) p ha hb (by omega) (Nat.zero_le _)) (evIte (fun _ => Ev.now _) fun _ => Ev.now _))
theorem tparse_j0 (a b : ByteArray) (n : Nat) (ha : a.size ≤ 512) (hb : b.size ≤ 512) (hn : n ≤ b.size) :
    Ev (fun k => target_Parse.j0 k a b (n : Int)) (if (parseS (a ++ sSep ++ b.extract 0 n)).2.2.2 = 0 then urlS (parseS (a ++ sSep ++ b.extract 0 n)) (cutS (b.extract n b.size) (⟨#[63]⟩ : ByteArray)) else noU (parseS (a ++ sSep ++ b.extract 0 n)).2.2.2) := by
  have z1 : (a ++ sSep).size = a.size + 3 := by rw [ByteArray.size_append]; rfl
  have z2 : (b.extract 0 n).size ≤ 512 := by rw [ByteArray.size_extract]; omega
  have z3 : (b.extract n b.size).size ≤ 512 := by rw [ByteArray.size_extract]; omega
  have z4 : (a ++ sSep ++ b.extract 0 n).size ≤ 1100 := by rw [ByteArray.size_append, z1]; omega
  have hp := parse_ev (a ++ sSep ++ b.extract 0 n) (by omega)
  obtain ⟨p1, p2⟩ := parse_sizes (a ++ sSep ++ b.extract 0 n) (by omega)
  have c1 := cutS_size (b.extract n b.size) (⟨#[63]⟩ : ByteArray)
  generalize hq : cutS (b.extract n b.size) (⟨#[63]⟩ : ByteArray) = q at c1 ⊢
  have hcut : strings_Cut.f (b.extract n b.size) (⟨#[63]⟩ : ByteArray) = some q := by rw [← hq]; exact cut_f _ _ (by omega)
  refine evSucc ?_
  simp only [target_Parse.j0, Int.toNat_natCast]
  refine evPos (by omega) (evPos (by omega) (evPos (by omega) (evPos (by show (a ++ sSep).size + _ ≤ _; omega) (Ev.bind hp (evIte (fun h0 => evBind hcut ?_) fun h0 => Ev.now _)))))
  unfold urlS
  refine Ev.bind (all_evV q.1 _ (by omega)) ?_
  show Ev (fun k => if allV notP q.1.data.toList = true then _ else _) _
  by_cases h1 : allV notP q.1.data.toList = true
  · refine evPos h1 (Ev.bind (all_evV q.2.1 _ (by omega)) ?_)
    show Ev (fun k => target_Parse.j1 k q.1 q.2.1 q.2.2 (!allV notQ q.2.1.data.toList) _ _ _) _
    refine evEq (tparse_j1 q.1 q.2.1 q.2.2 _ _ _ _ (by omega) (by omega) p1 p2) ?_
    by_cases h2 : allV notQ q.2.1.data.toList = true
    · rw [show (!allV notQ q.2.1.data.toList) = false by rw [h2]; rfl, if_neg (by decide)]
      exact (if_pos (And.intro h1 h2)).symm
    · rw [show (!allV notQ q.2.1.data.toList) = true by simpa using h2, if_pos rfl, if_neg (fun h => h2 h.2)]
  · rw [if_neg (fun h => h1 h.1)]
    exact evNeg h1 (tparse_j1 q.1 q.2.1 q.2.2 true _ _ _ (by omega) (by omega) p1 p2)
theorem indexAny_le (m l : Bs) : Lib.indexAny l m ≤ (l.length : Int) := by
  induction l with
  | nil => simp [Lib.indexAny]
  | cons b l ih =>
    rw [Lib.indexAny]
    split
    · simp; omega
    · split
      · simp; omega
      · simp; omega
theorem endsAt_le (rest : ByteArray) : endsAt rest ≤ rest.size := by
  have := indexAny_le ([47, 63] : List UInt8) rest.data.toList
  rw [← size_len] at this
  unfold endsAt
  split <;> omega
theorem body_ev (s : ByteArray) (hs : s.size ≤ 512) : Ev (fun k => (strings_Cut.f s sSep).bind fun bt317 => (if bt317.2.2 = true then ((strings_IndexAny.f bt317.2.1 (⟨#[47, 63]⟩ : ByteArray)).bind fun t320 => (if t320 < 0 then (target_Parse.j0 k bt317.1 bt317.2.1 (bt317.2.1.size : Int)) else (target_Parse.j0 k bt317.1 bt317.2.1 t320))) else (some ((⟨#[]⟩ : ByteArray), (⟨#[]⟩ : ByteArray), 0, (⟨#[]⟩ : ByteArray), (⟨#[]⟩ : ByteArray), 3)))) (bodyU s) := by
  have c1 := cutS_size s sSep
  unfold bodyU
  refine evBind (cut_f s sSep (by omega)) (evIte (fun hf => ?_) fun _ => Ev.now _)
  have hia : strings_IndexAny.f (cutS s sSep).2.1 (⟨#[47, 63]⟩ : ByteArray) = some (Lib.indexAny (cutS s sSep).2.1.data.toList ([47, 63] : List UInt8)) := by
    unfold strings_IndexAny.f
    rw [if_pos ⟨by decide, by decide, by omega, by decide⟩]
  refine evBind hia ?_
  have hle := endsAt_le (cutS s sSep).2.1
  have hj := tparse_j0 (cutS s sSep).1 (cutS s sSep).2.1 (endsAt (cutS s sSep).2.1) (by omega) (by omega) hle
  unfold restU
  by_cases h0 : Lib.indexAny (cutS s sSep).2.1.data.toList ([47, 63] : List UInt8) < 0
  · have e : endsAt (cutS s sSep).2.1 = (cutS s sSep).2.1.size := by unfold endsAt; rw [if_pos h0]
    refine evPos h0 ?_
    rw [e] at hj ⊢
    exact hj
  · have e : (endsAt (cutS s sSep).2.1 : Int) = Lib.indexAny (cutS s sSep).2.1.data.toList ([47, 63] : List UInt8) := by unfold endsAt; rw [if_neg h0]; omega
    refine evNeg h0 ?_
    rw [← e]
    exact hj
theorem tparse_ev (s : ByteArray) (hs : s.size ≤ 4000000000) : Ev (fun k => target_Parse.f k s) (tparseS s) := by
  have c1 := cutS_size s (⟨#[35]⟩ : ByteArray)
  unfold target_Parse.f tparseS
  refine evIte (fun _ => Ev.now _) fun h => evBind (cut_f s _ (by omega)) (body_ev _ (by omega))
theorem tparse_sizes (s : ByteArray) (hs : s.size ≤ 4000000000) : (tparseS s).1.size ≤ 100000 ∧ (tparseS s).2.1.size ≤ 100000 ∧ (tparseS s).2.2.2.1.size ≤ 20000 ∧ (tparseS s).2.2.2.2.1.size ≤ 20000 := by
  have z : (⟨#[]⟩ : ByteArray).size = 0 := rfl
  have hno : ∀ e, (noU e).1.size ≤ 100000 ∧ (noU e).2.1.size ≤ 100000 ∧ (noU e).2.2.2.1.size ≤ 20000 ∧ (noU e).2.2.2.2.1.size ≤ 20000 := by
    intro e
    unfold noU
    dsimp only
    omega
  unfold tparseS
  split
  · exact hno 4
  · rename_i hz
    have c1 := cutS_size s (⟨#[35]⟩ : ByteArray)
    have c2 := cutS_size (cutS s (⟨#[35]⟩ : ByteArray)).1 sSep
    unfold bodyU
    split
    · unfold restU
      split
      · have z1 : ((cutS (cutS s (⟨#[35]⟩ : ByteArray)).1 sSep).1 ++ sSep).size = (cutS (cutS s (⟨#[35]⟩ : ByteArray)).1 sSep).1.size + 3 := by rw [ByteArray.size_append]; rfl
        have z2 : ((cutS (cutS s (⟨#[35]⟩ : ByteArray)).1 sSep).2.1.extract 0 (endsAt (cutS (cutS s (⟨#[35]⟩ : ByteArray)).1 sSep).2.1)).size ≤ 512 := by rw [ByteArray.size_extract]; omega
        have z3 : ((cutS (cutS s (⟨#[35]⟩ : ByteArray)).1 sSep).2.1.extract (endsAt (cutS (cutS s (⟨#[35]⟩ : ByteArray)).1 sSep).2.1) (cutS (cutS s (⟨#[35]⟩ : ByteArray)).1 sSep).2.1.size).size ≤ 512 := by rw [ByteArray.size_extract]; omega
        have hps := parse_sizes ((cutS (cutS s (⟨#[35]⟩ : ByteArray)).1 sSep).1 ++ sSep ++ (cutS (cutS s (⟨#[35]⟩ : ByteArray)).1 sSep).2.1.extract 0 (endsAt (cutS (cutS s (⟨#[35]⟩ : ByteArray)).1 sSep).2.1)) (by rw [ByteArray.size_append, z1]; omega)
        have c3 := cutS_size ((cutS (cutS s (⟨#[35]⟩ : ByteArray)).1 sSep).2.1.extract (endsAt (cutS (cutS s (⟨#[35]⟩ : ByteArray)).1 sSep).2.1) (cutS (cutS s (⟨#[35]⟩ : ByteArray)).1 sSep).2.1.size) (⟨#[63]⟩ : ByteArray)
        generalize parseS ((cutS (cutS s (⟨#[35]⟩ : ByteArray)).1 sSep).1 ++ sSep ++ (cutS (cutS s (⟨#[35]⟩ : ByteArray)).1 sSep).2.1.extract 0 (endsAt (cutS (cutS s (⟨#[35]⟩ : ByteArray)).1 sSep).2.1)) = o at hps ⊢
        generalize cutS ((cutS (cutS s (⟨#[35]⟩ : ByteArray)).1 sSep).2.1.extract (endsAt (cutS (cutS s (⟨#[35]⟩ : ByteArray)).1 sSep).2.1) (cutS (cutS s (⟨#[35]⟩ : ByteArray)).1 sSep).2.1.size) (⟨#[63]⟩ : ByteArray) = q at c3 ⊢
        unfold urlS
        split
        · unfold fitU
          split
          · exact hno 4
          · have hcl := clean_length q.1.data.toList
            have hq := size_len q.1
            have hz2 : (bsOf (cleanV q.1.data.toList)).size = (cleanV q.1.data.toList).length := size_bsOf _
            have hz3 : (askQ q).size ≤ q.2.1.size + 1 := by
              unfold askQ
              split
              · rw [ByteArray.size_append, show ((⟨#[63]⟩ : ByteArray)).size = 1 from rfl]; omega
              · omega
            dsimp only
            omega
        · exact hno 3
      · exact hno _
    · exact hno 3
theorem indexByte_mem (l : Bs) (c : UInt8) : decide (Lib.indexByte l c ≥ 0) = l.contains c := by
  induction l with
  | nil => rfl
  | cons b l ih =>
    unfold Lib.indexByte
    have hge := Lib.indexByte_ge l c
    by_cases h : b = c
    · subst h
      simp
    · have h1 : (b == c) = false := by simpa using h
      have h2 : (c == b) = false := by simpa using fun e => h e.symm
      rw [h1, List.contains_cons, h2, Bool.false_or, ← ih]
      simp only [Bool.false_eq_true, if_false]
      by_cases h3 : Lib.indexByte l c = -1
      · simp [h3]
      · have h4 : (Lib.indexByte l c == -1) = false := by simpa using h3
        rw [h4]
        simp
        omega
def isBl (c : UInt8) : Bool := c == 9 || c == 10 || c == 13 || c == 32
theorem blank_f (c : UInt8) : octet_blank.f (c.toNat : Int) = some (isBl c) := by
  unfold octet_blank.f strings_IndexByte.f
  simp only [Option.bind_some]
  rw [indexByte_mem]
  congr 1
  rw [Bool.eq_iff_iff]
  simp [isBl, or_assoc]
def trimR (l : Bs) : Bs := (l.reverse.dropWhile isBl).reverse
def trimL (l : Bs) : Bs := trimR (l.dropWhile isBl)
def trimS (s : ByteArray) : ByteArray := bsOf (trimL s.data.toList)
theorem trim_l1 (n : Nat) : ∀ s : ByteArray, s.size = n → n ≤ 4611686018427387904 → Ev (fun k => octet_Trim.l1 k s) (bsOf (trimR s.data.toList)) := by
  induction n with
  | zero =>
    intro s hs _
    have hl : s.data.toList = [] := List.eq_nil_of_length_eq_zero (by rw [← size_len]; exact hs)
    refine Ev.step (f := fun _ => some s) (fun k => ?_) ?_
    · simp only [octet_Trim.l1]
      rw [if_pos (by rw [tl, hl])]
    · rw [hl, ← bsOf_of s, hl]
      exact Ev.now _
  | succ n ih =>
    intro s hs hn
    have hlen : s.data.toList.length = n + 1 := by rw [← size_len]; exact hs
    obtain ⟨l, c, hl⟩ : ∃ l c, s.data.toList = l ++ [c] := by
      have hne : s.data.toList ≠ [] := by intro e; rw [e] at hlen; simp at hlen
      exact ⟨_, _, (List.dropLast_concat_getLast hne).symm⟩
    have hll : l.length = n := by rw [hl] at hlen; simpa using hlen
    have hw : wrap64 ((s.size : Int) - 1) = (n : Int) := by rw [hs]; unfold wrap64; omega
    have hb : bt s ((n : Nat) : Int) = (c.toNat : Int) := by
      rw [bt_get s n (by omega), hl]
      simp [List.getD_eq_getElem?_getD, hll]
    have hne : ¬ s.toList = [] := by rw [tl, hl]; simp
    by_cases hc : isBl c = true
    · refine Ev.step (f := fun k => octet_Trim.l1 k (s.extract 0 n)) (fun k => ?_) ?_
      · simp only [octet_Trim.l1]
        rw [if_neg hne, hw, if_pos (by omega), if_pos (by omega), hb, blank_f]
        simp only [Option.bind_some]
        rw [if_pos hc, if_pos (by omega)]
        rfl
      · have he : (s.extract 0 n).data.toList = l := by
          rw [extract_list, hl]
          simp [← hll]
        have hsz : (s.extract 0 n).size = n := by rw [size_len, he, hll]
        have := ih _ hsz (by omega)
        rw [he] at this
        have e2 : trimR s.data.toList = trimR l := by
          rw [hl]
          simp [trimR, hc]
        rw [e2]
        exact this
    · refine Ev.step (f := fun _ => some s) (fun k => ?_) ?_
      · simp only [octet_Trim.l1]
        rw [if_neg hne, hw, if_pos (by omega), if_pos (by omega), hb, blank_f]
        simp only [Option.bind_some]
        rw [if_neg hc]
      · have e2 : trimR s.data.toList = s.data.toList := by
          rw [hl]
          simp [trimR, hc]
        rw [e2, bsOf_of]
        exact Ev.now _
theorem trim_j1 (s : ByteArray) (hn : s.size ≤ 4611686018427387904) : Ev (fun k => octet_Trim.j1 k s) (bsOf (trimR s.data.toList)) :=
  Ev.step (fun k => rfl) (trim_l1 _ s rfl hn)
theorem trim_l0 (n : Nat) : ∀ s : ByteArray, s.size = n → n ≤ 4611686018427387904 → Ev (fun k => octet_Trim.l0 k s) (trimS s) := by
  induction n with
  | zero =>
    intro s hs hn
    have hl : s.data.toList = [] := List.eq_nil_of_length_eq_zero (by rw [← size_len]; exact hs)
    refine Ev.step (f := fun k => octet_Trim.j1 k s) (fun k => ?_) ?_
    · simp only [octet_Trim.l0]
      rw [if_pos (by rw [tl, hl])]
    · have := trim_j1 s (by omega)
      unfold trimS trimL
      rw [hl] at this ⊢
      exact this
  | succ n ih =>
    intro s hs hn
    have hlen : s.data.toList.length = n + 1 := by rw [← size_len]; exact hs
    obtain ⟨c, l, hl⟩ : ∃ c l, s.data.toList = c :: l := by
      cases h : s.data.toList with
      | nil => rw [h] at hlen; simp at hlen
      | cons c l => exact ⟨c, l, rfl⟩
    have hll : l.length = n := by rw [hl] at hlen; simpa using hlen
    have hb : bt s 0 = (c.toNat : Int) := by
      have := bt_get s 0 (by omega)
      rw [hl] at this
      simpa using this
    have hne : ¬ s.toList = [] := by rw [tl, hl]; simp
    by_cases hc : isBl c = true
    · refine Ev.step (f := fun k => octet_Trim.l0 k (s.extract 1 s.size)) (fun k => ?_) ?_
      · simp only [octet_Trim.l0]
        rw [if_neg hne, if_pos (by omega), hb, blank_f]
        simp only [Option.bind_some]
        rw [if_pos hc, if_pos (by omega)]
      · have he : (s.extract 1 s.size).data.toList = l := by
          rw [extract_list, hl, hs]
          simp [← hll]
        have hsz : (s.extract 1 s.size).size = n := by rw [size_len, he, hll]
        have := ih _ hsz (by omega)
        unfold trimS at this ⊢
        rw [he] at this
        rw [hl]
        have e2 : trimL (c :: l) = trimL l := by simp [trimL, hc]
        rw [e2]
        exact this
    · refine Ev.step (f := fun k => octet_Trim.j1 k s) (fun k => ?_) ?_
      · simp only [octet_Trim.l0]
        rw [if_neg hne, if_pos (by omega), hb, blank_f]
        simp only [Option.bind_some]
        rw [if_neg hc]
      · have := trim_j1 s (by omega)
        unfold trimS trimL
        have e2 : s.data.toList.dropWhile isBl = s.data.toList := by rw [hl]; simp [hc]
        rw [e2]
        exact this
theorem trim_ev (s : ByteArray) (hn : s.size ≤ 4611686018427387904) : Ev (fun k => octet_Trim.f k s) (trimS s) := trim_l0 _ s rfl hn
def foldB (a b : ByteArray) : Bool := lowL a.data.toList == lowL b.data.toList
theorem fold_f (a b : ByteArray) (ha : a.size ≤ 9223372036854775807) (hb : b.size ≤ 9223372036854775807) : octet_Fold.f a b = some (foldB a b) := by
  unfold octet_Fold.f
  rw [lower_f a ha, lower_f b hb]
  simp only [Option.bind_some]
  rw [tl_beq]
  rfl
def joinS (l : List ByteArray) : ByteArray := joinB l ⟨#[44, 32]⟩
theorem join_f (l : List ByteArray) (h1 : l.length ≤ 140737488355328) (h2 : (joinS l).size ≤ 140737488355328) : octet_Join.f l = some (joinS l) := by
  unfold octet_Join.f strings_Join.f
  rw [if_pos]
  · rfl
  · refine ⟨h1, ?_⟩
    have := h2
    unfold joinS joinB at this
    rw [size_bsOf] at this
    exact this
abbrev Hd := S28
def HOk (l : List Hd) : Prop := l.length ≤ 1000 ∧ ∀ h ∈ l, h.f0.size ≤ 1000000 ∧ h.f1.size ≤ 1000000
def vals (l : List Hd) (name : ByteArray) : List ByteArray := (l.filter fun h => foldB h.f0 name).map fun h => trimS h.f1
def getS (l : List Hd) (name : ByteArray) : ByteArray × Bool := (joinS (vals l name), decide (((vals l name).length : Int) > 0))
theorem trimL_length (l : Bs) : (trimL l).length ≤ l.length := by
  unfold trimL trimR
  have h1 := (List.dropWhile_sublist isBl (l := l)).length_le
  have h2 := (List.dropWhile_sublist isBl (l := (l.dropWhile isBl).reverse)).length_le
  simp only [List.length_reverse] at h2 ⊢
  omega
theorem trimS_size (s : ByteArray) : (trimS s).size ≤ s.size := by
  unfold trimS
  rw [size_bsOf, size_len]
  exact trimL_length _
theorem joinS_size (l : List ByteArray) (n : Nat) (h : ∀ s ∈ l, s.size ≤ n) : (joinS l).size ≤ l.length * (n + 2) := by
  unfold joinS joinB
  rw [size_bsOf]
  cases l with
  | nil => simp [Lib.join]
  | cons a r =>
    have hj := Lib.join_length a.data.toList (r.map (·.data.toList)) [44, 32]
    rw [List.map_cons, hj]
    have key : ∀ m : List ByteArray, (∀ s ∈ m, s.size ≤ n) → Lib.lens (m.map (·.data.toList)) ≤ m.length * n := by
      intro m
      induction m with
      | nil => intro _; simp [Lib.lens]
      | cons b m ih =>
        intro hm
        have h1 := hm b (by simp)
        have h2 := ih (fun s hs => hm s (by simp [hs]))
        rw [size_len] at h1
        simp only [Lib.lens, List.map_cons, List.sum_cons, List.length_cons] at h2 ⊢
        rw [Nat.add_mul]
        omega
    have hk := key (a :: r) h
    simp only [List.length_map, List.length_cons, List.length_nil, List.map_cons] at hk ⊢
    rw [Nat.mul_add]
    omega
theorem vals_length (l : List Hd) (name : ByteArray) : (vals l name).length ≤ l.length := by
  unfold vals
  rw [List.length_map]
  exact List.length_filter_le _ _
theorem vals_size {l : List Hd} (h : HOk l) (name : ByteArray) : ∀ s ∈ vals l name, s.size ≤ 1000000 := by
  intro s hs
  obtain ⟨x, hx, rfl⟩ := List.mem_map.1 hs
  have := trimS_size x.f1
  have := (h.2 x (List.mem_filter.1 hx).1).2
  omega
theorem vals_join {l : List Hd} (h : HOk l) (name : ByteArray) : (joinS (vals l name)).size ≤ 1000002000 := by
  have h1 := joinS_size _ _ (vals_size h name)
  have h2 := vals_length l name
  have h3 := h.1
  have : (vals l name).length * (1000000 + 2) ≤ 1000 * (1000000 + 2) := Nat.mul_le_mul_right _ (by omega)
  omega
theorem vals_append (l m : List Hd) (name : ByteArray) : vals (l ++ m) name = vals l name ++ vals m name := by simp [vals]
theorem rd_mid (p : List Hd) (h : Hd) (r : List Hd) : rd_T28 (p ++ h :: r) (p.length : Int) = h := by
  simp [rd_T28, List.getD_eq_getElem?_getD]
theorem get_l0 (name : ByteArray) (hn : name.size ≤ 1000000) (l : List Hd) (hl : HOk l) (r : List Hd) : ∀ p acc, p ++ r = l → acc = vals p name →
    Ev (fun k => header_Get.l0 k name acc l (l.length : Int) (p.length : Int)) (getS l name) := by
  induction r with
  | nil =>
    intro p acc hp hacc
    rw [List.append_nil] at hp
    subst hp
    subst hacc
    refine evSucc ?_
    simp only [header_Get.l0]
    have hlen := vals_length p name
    have h1 := hl.1
    refine evNeg (by omega) ?_
    rw [join_f (vals p name) (by omega) (by have := vals_join hl name; omega)]
    exact Ev.now _
  | cons h r ih =>
    intro p acc hp hacc
    have hlen : l.length = p.length + (r.length + 1) := by rw [← hp]; simp
    have h1 := hl.1
    have hh := hl.2 h (by rw [← hp]; simp)
    refine evSucc ?_
    simp only [header_Get.l0]
    refine evPos (by omega) (evPos (by omega) (evPos (by omega) ?_))
    have hr : rd_T28 l (p.length : Int) = h := by rw [← hp]; exact rd_mid p h r
    rw [hr]
    refine evBind (fold_f _ _ (by omega) (by omega)) ?_
    have e2 : wrap64 ((p.length : Int) + 1) = ((p ++ [h]).length : Int) := by simp; unfold wrap64; omega
    rw [e2]
    cases hf : foldB h.f0 name with
    | true =>
      simp only [if_true]
      refine Ev.bind (trim_ev h.f1 (by omega)) ?_
      have hlv := vals_length p name
      refine evPos (by rw [hacc]; omega) ?_
      exact ih (p ++ [h]) _ (by simpa using hp) (by rw [hacc, vals_append]; simp [vals, hf])
    | false =>
      simp only [Bool.false_eq_true, if_false]
      exact ih (p ++ [h]) _ (by simpa using hp) (by rw [hacc, vals_append]; simp [vals, hf])
theorem get_ev (l : List Hd) (name : ByteArray) (hl : HOk l) (hn : name.size ≤ 1000000) : Ev (fun k => header_Get.f k l name) (getS l name) := by
  have := get_l0 name hn l hl l [] [] rfl (by simp [vals])
  simpa [header_Get.f] using this
def sFrom : ByteArray := (⟨#[97, 99, 99, 101, 115, 115, 45, 99, 111, 110, 116, 114, 111, 108, 45, 97, 108, 108, 111, 119, 45, 111, 114, 105, 103, 105, 110]⟩ : ByteArray)
def sTrusts : ByteArray := (⟨#[97, 99, 99, 101, 115, 115, 45, 99, 111, 110, 116, 114, 111, 108, 45, 97, 108, 108, 111, 119, 45, 99, 114, 101, 100, 101, 110, 116, 105, 97, 108, 115]⟩ : ByteArray)
def corsS (origin : ByteArray) (creds : Bool) (l : List Hd) : Int :=
  if (getS l sFrom).2 = true then
    (if (getS l sFrom).1.data.toList = ([42] : List UInt8) ∧ creds = false then 0
     else if (getS l sFrom).1 ≠ origin then 15
     else if creds = true ∧ (getS l sTrusts).1.data.toList ≠ ([116, 114, 117, 101] : List UInt8) then 15 else 0)
  else 15
theorem cors_j1 (x1 : Bool) (x2 : List Hd) (x31 : Bool) (hl : HOk x2) : Ev (fun k => cors_Check.j1 k x1 x2 x31) (if x31 = true then 15 else if x1 = true ∧ (getS x2 sTrusts).1.data.toList ≠ ([116, 114, 117, 101] : List UInt8) then 15 else 0) := by
  refine evSucc ?_
  simp only [cors_Check.j1]
  cases x31 with
  | true => simp only [if_true]; exact Ev.now _
  | false =>
    simp only [Bool.false_eq_true, if_false]
    refine Ev.bind (get_ev x2 sTrusts hl (by decide)) ?_
    rw [tl]
    cases x1 with
    | true =>
      simp only [if_true, true_and]
      by_cases h : (getS x2 sTrusts).1.data.toList = ([116, 114, 117, 101] : List UInt8)
      · rw [if_pos h, if_neg (fun h' => h' h)]; exact Ev.now _
      · rw [if_neg h, if_pos h]; exact Ev.now _
    | false =>
      simp only [Bool.false_eq_true, if_false, false_and]
      exact Ev.now _
theorem cors_ev (origin : ByteArray) (creds : Bool) (l : List Hd) (hl : HOk l) : Ev (fun k => cors_Check.f k origin creds l) (corsS origin creds l) := by
  unfold cors_Check.f corsS
  refine Ev.bind (get_ev l sFrom hl (by decide)) ?_
  generalize getS l sFrom = g
  obtain ⟨v, ok⟩ := g
  rw [tl]
  have hne : (v.toList != origin.toList) = decide (v ≠ origin) := by
    rw [Bool.eq_iff_iff]
    simp [tl_eq]
  cases ok with
  | false =>
    simp only [Bool.false_eq_true, if_false]
    refine evSucc ?_
    simp only [cors_Check.j0, Bool.false_eq_true, if_false]
    exact evEq (cors_j1 creds l true hl) (by simp)
  | true =>
    simp only [if_true]
    by_cases h1 : v.data.toList = ([42] : List UInt8)
    · refine evPos h1 ?_
      refine evSucc ?_
      simp only [cors_Check.j0]
      cases creds with
      | false => simp only [Bool.not_false, if_true, h1, true_and]; exact Ev.now _
      | true =>
        simp only [Bool.not_true, Bool.false_eq_true, if_false, if_true, and_false, Bool.true_eq_false]
        rw [hne]
        refine evEq (cors_j1 true l _ hl) ?_
        simp
    · refine evNeg h1 ?_
      refine evSucc ?_
      simp only [cors_Check.j0, Bool.false_eq_true, if_false, if_true]
      rw [if_neg (fun h => h1 h.1), hne]
      refine evEq (cors_j1 creds l _ hl) ?_
      simp
theorem great_l0 (l : List Hd) (hl : l.length ≤ 40) (r : List Hd) : ∀ (p : List Hd) (n : Int), p ++ r = l → (∀ h ∈ p, h.f0.size ≤ 100 ∧ h.f1.size ≤ 5000) → 0 ≤ n → n ≤ 5000 * p.length →
    ∃ b, Ev (fun k => lockkeeperlaw0_GreatHeaders.l0 k l n (p.length : Int)) b ∧ (b = false → ∀ h ∈ l, h.f0.size ≤ 100 ∧ h.f1.size ≤ 5000) := by
  induction r with
  | nil =>
    intro p n hp hall h0 hn
    rw [List.append_nil] at hp
    subst hp
    refine ⟨decide (n > 12000), evSucc ?_, fun _ => hall⟩
    simp only [lockkeeperlaw0_GreatHeaders.l0]
    exact evNeg (by omega) (Ev.now _)
  | cons h r ih =>
    intro p n hp hall h0 hn
    have hlen : l.length = p.length + (r.length + 1) := by rw [← hp]; simp
    have hr : rd_T28 l (p.length : Int) = h := by rw [← hp]; exact rd_mid p h r
    by_cases h1 : (h.f0.size : Int) > 100
    · refine ⟨true, evSucc ?_, fun h => by cases h⟩
      simp only [lockkeeperlaw0_GreatHeaders.l0, hr]
      exact evPos (by omega) (evPos (by omega) (evPos h1 (Ev.now _)))
    · by_cases h2 : (h.f1.size : Int) > 5000
      · refine ⟨true, evSucc ?_, fun h => by cases h⟩
        simp only [lockkeeperlaw0_GreatHeaders.l0, hr]
        exact evPos (by omega) (evPos (by omega) (evNeg h1 (evPos h2 (Ev.now _))))
      · obtain ⟨b, hb, hB⟩ := ih (p ++ [h]) (n + h.f1.size) (by simpa using hp) (fun x hx => by
          rcases List.mem_append.1 hx with hx | hx
          · exact hall x hx
          · rw [List.mem_singleton.1 hx]; omega) (by omega) (by simp; omega)
        refine ⟨b, evSucc ?_, hB⟩
        simp only [lockkeeperlaw0_GreatHeaders.l0, hr]
        refine evPos (by omega) (evPos (by omega) (evNeg h1 (evNeg h2 ?_)))
        have e1 : wrap64 (n + (h.f1.size : Int)) = n + h.f1.size := by unfold wrap64; omega
        have e2 : wrap64 ((p.length : Int) + 1) = ((p ++ [h]).length : Int) := by simp; unfold wrap64; omega
        rw [e1, e2]
        exact hb
def HSmall (l : List Hd) : Prop := l.length ≤ 40 ∧ ∀ h ∈ l, h.f0.size ≤ 100 ∧ h.f1.size ≤ 5000
theorem HSmall.ok {l : List Hd} (h : HSmall l) : HOk l := ⟨by have := h.1; omega, fun x hx => by have := h.2 x hx; omega⟩
theorem great_ev (l : List Hd) : ∃ b, Ev (fun k => lockkeeperlaw0_GreatHeaders.f k l) b ∧ (b = false → HSmall l) := by
  unfold lockkeeperlaw0_GreatHeaders.f
  by_cases h : (l.length : Int) > 40
  · exact ⟨true, evPos h (Ev.now _), fun h => by cases h⟩
  · obtain ⟨b, hb, hB⟩ := great_l0 l (by omega) l [] 0 rfl (by simp) (by omega) (by simp)
    exact ⟨b, evNeg h hb, fun e => ⟨by omega, hB e⟩⟩
theorem bs_lt_irrefl (a : Bs) : ¬ a < a := List.lt_irrefl a
theorem bs_lt_trans {a b c : Bs} (h : a < b) (h' : b < c) : a < c := List.lt_trans h h'
theorem bs_le_or (a b : Bs) : a ≤ b ∨ b ≤ a := List.le_total a b
theorem bs_lt_of {a b : Bs} (h : a ≤ b) (hn : b ≠ a) : a < b := by
  rcases Classical.em (a < b) with h' | h'
  · exact h'
  · exact absurd (List.le_antisymm (List.not_lt.1 h') h) hn
theorem bs_le_lt {a b c : Bs} (h : a ≤ b) (h' : b < c) : a < c := List.lt_of_le_of_lt h h'
abbrev Rises (l : List Bs) : Prop := l.Pairwise (· < ·)
theorem compactUpTo_mem (d : Array Bs) : ∀ m i, i < m → d[i]! ∈ Lib.compactUpTo d m := by
  intro m
  induction m with
  | zero => intro i hi; omega
  | succ m ih =>
    intro i hi
    rw [Lib.compactUpTo_succ]
    by_cases h : i < m
    · exact List.mem_append_left _ (ih i h)
    · obtain rfl : i = m := by omega
      cases hk : Lib.keeps d i with
      | true => simp
      | false =>
        have : ¬ (i = 0 ∨ d[i]! ≠ d[i - 1]!) := by simpa [Lib.keeps] using hk
        have h0 : i ≠ 0 := fun e => this (.inl e)
        have h1 : d[i]! = d[i - 1]! := Classical.byContradiction fun e => this (.inr e)
        rw [h1]
        exact List.mem_append_left _ (ih (i - 1) (by omega))
theorem compact_mem (zs : List Bs) (x : Bs) : x ∈ Lib.compact zs ↔ x ∈ zs := by
  constructor
  · intro h
    unfold Lib.compact Lib.compactUpTo at h
    obtain ⟨i, hi, rfl⟩ := List.mem_map.1 h
    have hi' : i < zs.length := List.mem_range.1 (List.mem_filter.1 hi).1
    simp [getElem!_pos, hi']
  · intro h
    obtain ⟨i, hi, rfl⟩ := List.getElem_of_mem h
    have := compactUpTo_mem zs.toArray zs.length i hi
    simpa [Lib.compact, getElem!_pos, hi] using this
theorem compactUpTo_rises (d : Array Bs) (hd : ∀ i, i + 1 < d.size → d[i]! ≤ d[i + 1]!) : ∀ m, m ≤ d.size → Rises (Lib.compactUpTo d m) ∧ ∀ x ∈ Lib.compactUpTo d m, x ≤ d[m - 1]! := by
  intro m
  induction m with
  | zero => intro _; exact ⟨by simp [Lib.compactUpTo, Rises], by simp [Lib.compactUpTo]⟩
  | succ m ih =>
    intro hm
    obtain ⟨h1, h2⟩ := ih (by omega)
    rw [Lib.compactUpTo_succ]
    cases hk : Lib.keeps d m with
    | true =>
      have hk' : m = 0 ∨ d[m]! ≠ d[m - 1]! := by simpa [Lib.keeps] using hk
      simp only [if_true]
      rcases Nat.eq_zero_or_pos m with rfl | hp
      · refine ⟨by simp [Lib.compactUpTo, Rises], ?_⟩
        intro x hx
        have : x = d[0]! := by simpa [Lib.compactUpTo] using hx
        rw [this]
        exact List.le_refl _
      · have hne := hk'.resolve_left (by omega)
        have hle : d[m - 1]! ≤ d[m]! := by
          have := hd (m - 1) (by omega)
          rwa [show m - 1 + 1 = m by omega] at this
        have hlt := bs_lt_of hle hne
        refine ⟨List.pairwise_append.2 ⟨h1, by simp, ?_⟩, ?_⟩
        · intro x hx y hy
          rw [List.mem_singleton.1 hy]
          exact bs_le_lt (h2 x hx) hlt
        · intro x hx
          rcases List.mem_append.1 hx with hx | hx
          · exact List.le_of_lt (bs_le_lt (h2 x hx) hlt)
          · rw [List.mem_singleton.1 hx]
            exact List.le_refl _
    | false =>
      have : ¬ (m = 0 ∨ d[m]! ≠ d[m - 1]!) := by simpa [Lib.keeps] using hk
      have h0 : m ≠ 0 := fun e => this (.inl e)
      have e1 : d[m]! = d[m - 1]! := Classical.byContradiction fun e => this (.inr e)
      simp only [Bool.false_eq_true, if_false, List.append_nil]
      refine ⟨h1, fun x hx => ?_⟩
      have := h2 x hx
      rw [← e1] at this
      exact this
def riseL (l : List Bs) : List Bs := Lib.compact (l.mergeSort fun x y => decide (x ≤ y))
theorem riseL_mem (l : List Bs) (x : Bs) : x ∈ riseL l ↔ x ∈ l := by
  unfold riseL
  rw [compact_mem]
  exact (List.mergeSort_perm _ _).mem_iff
theorem riseL_rises (l : List Bs) : Rises (riseL l) := by
  unfold riseL Lib.compact
  refine (compactUpTo_rises _ ?_ _ (by simp)).1
  intro i hi
  have hi' : i + 1 < (l.mergeSort fun x y => decide (x ≤ y)).length := by simpa using hi
  have hp := List.pairwise_mergeSort (le := fun x y : Bs => decide (x ≤ y)) (fun a b c h1 h2 => by simp at h1 h2 ⊢; exact List.le_trans h1 h2) (fun a b => by simpa using bs_le_or a b) l
  have := List.pairwise_iff_getElem.1 hp i (i + 1) (by omega) hi' (by omega)
  have e : ∀ (a : List Bs) (j : Nat) (h : j < a.length), a.toArray[j]! = a[j] := by intro a j h; simp [h]
  rw [e _ _ (by omega), e _ _ hi']
  simpa using this
theorem rises_sublist : ∀ {b a : List Bs}, Rises a → Rises b → (∀ x ∈ a, x ∈ b) → a.Sublist b := by
  intro b
  induction b with
  | nil =>
    intro a _ _ h
    cases a with
    | nil => exact .slnil
    | cons x a => exact absurd (h x (by simp)) (by simp)
  | cons y b ih =>
    intro a ha hb h
    cases a with
    | nil => exact List.nil_sublist _
    | cons x a =>
      have ha' := List.pairwise_cons.1 ha
      have hb' := List.pairwise_cons.1 hb
      by_cases e : x = y
      · subst e
        refine .cons_cons _ (ih ha'.2 hb'.2 fun z hz => ?_)
        rcases List.mem_cons.1 (h z (by simp [hz])) with e | e
        · subst e; exact absurd (ha'.1 _ hz) (bs_lt_irrefl _)
        · exact e
      · have hx : x ∈ b := (List.mem_cons.1 (h x (by simp))).resolve_left e
        have hyx := hb'.1 x hx
        refine .cons _ (ih ha hb'.2 fun z hz => ?_)
        refine (List.mem_cons.1 (h z hz)).resolve_left fun e' => ?_
        subst e'
        rcases List.mem_cons.1 hz with e' | e'
        · exact e e'.symm
        · exact bs_lt_irrefl _ (bs_lt_trans hyx (ha'.1 _ e'))
theorem rises_eq {a b : List Bs} (ha : Rises a) (hb : Rises b) (h : ∀ x, x ∈ a ↔ x ∈ b) : a = b :=
  (rises_sublist ha hb fun x hx => (h x).1 hx).eq_of_length_le (rises_sublist hb ha fun x hx => (h x).2 hx).length_le
abbrev lists (l : List ByteArray) : List Bs := l.map (·.data.toList)
def riseB (l : List ByteArray) : List ByteArray := (riseL (lists l)).map bsOf
theorem lists_bsOf (l : List Bs) : lists (l.map bsOf) = l := by
  simp [lists, bsOf_data, Function.comp_def]
theorem lists_inj {a b : List ByteArray} (h : lists a = lists b) : a = b := by
  have := congrArg (List.map bsOf) h
  simpa [lists, bsOf_of, Function.comp_def] using this
theorem lists_rise (l : List ByteArray) : lists (riseB l) = riseL (lists l) := lists_bsOf _
theorem riseB_mem (l : List ByteArray) (x : ByteArray) : x ∈ riseB l ↔ x ∈ l := by
  have h1 : ∀ (m : List ByteArray), x ∈ m ↔ x.data.toList ∈ lists m := by
    intro m
    constructor
    · intro h; exact List.mem_map.2 ⟨x, h, rfl⟩
    · intro h
      obtain ⟨y, hy, e⟩ := List.mem_map.1 h
      rw [← ba_ext e]; exact hy
  rw [h1, lists_rise, riseL_mem, ← h1]
theorem riseL_length (l : List Bs) : (riseL l).length ≤ l.length := by
  unfold riseL
  have h1 := compact_len (l.mergeSort fun x y => decide (x ≤ y))
  have h2 : (l.mergeSort fun x y => decide (x ≤ y)).length = l.length := by simp
  omega
theorem riseB_length (l : List ByteArray) : (riseB l).length ≤ l.length := by
  have := riseL_length (lists l)
  simpa [riseB] using this
theorem sortCompact (l : List ByteArray) : compactB (sortB l) = riseB l := by
  unfold compactB sortB riseB riseL
  rw [show (((l.map (·.data.toList)).mergeSort fun x y => decide (x ≤ y)).map bsOf).map (·.data.toList) = (l.map (·.data.toList)).mergeSort fun x y => decide (x ≤ y) from lists_bsOf _]
theorem sort_f (l : List ByteArray) (h : l.length < 4611686018427387904) : slices_Sort_string_string.f l = some (sortB l) := by
  unfold slices_Sort_string_string.f
  rw [if_pos h]
theorem compact_f (l : List ByteArray) (h : l.length ≤ 9223372036854775807) : slices_Compact_string_string.f l = some (compactB l) := by
  unfold slices_Compact_string_string.f
  rw [if_pos h]
def namesS (l : List Hd) : List ByteArray := riseB (l.map fun h => lowB h.f0)
theorem namesS_mem (l : List Hd) (x : ByteArray) : x ∈ namesS l ↔ ∃ h ∈ l, lowB h.f0 = x := by
  unfold namesS
  rw [riseB_mem, List.mem_map]
def isLet (c : UInt8) : Bool := (octet_letter.f (c.toNat : Int)).getD false
theorem letter_f (c : UInt8) : octet_letter.f (c.toNat : Int) = some (isLet c) := by
  unfold isLet octet_letter.f
  repeat' split
  all_goals rfl
def isMark (c : UInt8) : Bool := !(decide (Lib.indexByte ((⟨#[33, 35, 36, 37, 38, 39, 42, 43, 45, 46, 94, 95, 96, 124, 126]⟩ : ByteArray)).data.toList c < 0))
theorem mark_f (c : UInt8) : strings_IndexByte.f (⟨#[33, 35, 36, 37, 38, 39, 42, 43, 45, 46, 94, 95, 96, 124, 126]⟩ : ByteArray) (c.toNat : Int) = some (Lib.indexByte ((⟨#[33, 35, 36, 37, 38, 39, 42, 43, 45, 46, 94, 95, 96, 124, 126]⟩ : ByteArray)).data.toList c) := by
  unfold strings_IndexByte.f
  simp
def isTok (c : UInt8) : Bool := isLet c || isDig c || isMark c
def tokS (s : ByteArray) : Bool := s.data.toList.all isTok && s.data.toList != []
theorem token_l0 (s : ByteArray) (hs : s.size ≤ 4611686018427387904) (r : Bs) : ∀ (p : Bs), s.data.toList = p ++ r →
    Ev (fun k => octet_Token.l0 k s (s.size : Int) (p.length : Int)) (r.all isTok && s.data.toList != []) := by
  induction r with
  | nil =>
    intro p hp
    have hl : s.size = p.length := by rw [size_len, hp]; simp
    refine evSucc ?_
    simp only [octet_Token.l0]
    refine evNeg (by omega) (evEq (Ev.now _) ?_)
    rw [tl]
    simp
  | cons c r ih =>
    intro p hp
    have hl : s.size = p.length + (r.length + 1) := by rw [size_len, hp]; simp
    have hb := bt_mid s p c r hp
    have e2 : wrap64 ((p.length : Int) + 1) = ((p ++ [c]).length : Int) := by simp; unfold wrap64; omega
    have ih' := ih (p ++ [c]) (by simpa using hp)
    refine evSucc ?_
    simp only [octet_Token.l0, hb, e2]
    refine evPos (by omega) (evPos (by omega) (evPos (by omega) (evBind (letter_f c) ?_)))
    rw [List.all_cons]
    cases h1 : isLet c with
    | true => exact evPos rfl (evEq ih' (by simp [isTok, h1]))
    | false =>
      refine evNeg (by decide) (evBind (digit_f c) ?_)
      cases h2 : isDig c with
      | true => exact evPos rfl (evEq ih' (by simp [isTok, h2]))
      | false =>
        refine evNeg (by decide) (evBind (mark_f c) ?_)
        by_cases h3 : Lib.indexByte ((⟨#[33, 35, 36, 37, 38, 39, 42, 43, 45, 46, 94, 95, 96, 124, 126]⟩ : ByteArray)).data.toList c < 0
        · exact evPos h3 (evEq (Ev.now _) (by simp [isTok, h1, h2, isMark, h3]))
        · refine evNeg h3 (evEq ih' ?_)
          have : isTok c = true := by simp only [isTok, isMark, h3, decide_false, Bool.not_false, Bool.or_true]
          rw [this, Bool.true_and]
theorem token_ev (s : ByteArray) (hs : s.size ≤ 4611686018427387904) : Ev (fun k => octet_Token.f k s) (tokS s) := token_l0 s hs s.data.toList [] rfl
def preS (s : ByteArray) : ByteArray × Bool := if (s.data.toList.take 6) = ([98, 121, 116, 101, 115, 61] : List UInt8) then (bsOf (s.data.toList.drop 6), true) else (s, false)
theorem prefix_f (s : ByteArray) : strings_CutPrefix.f s (⟨#[98, 121, 116, 101, 115, 61]⟩ : ByteArray) = some (preS s) := by
  unfold strings_CutPrefix.f stringslite_CutPrefix.f stringslite_HasPrefix.f preS
  have h6 : ((⟨#[98, 121, 116, 101, 115, 61]⟩ : ByteArray)).size = 6 := rfl
  rw [h6]
  have e1 : (s.extract 0 6).toList = s.data.toList.take 6 := by rw [tl, extract_list]; rfl
  have e2 : s.extract 6 s.size = bsOf (s.data.toList.drop 6) := by
    apply ba_ext
    rw [extract_list, size_len, List.take_length]
    rfl
  by_cases h : (s.size : Int) ≥ ((6 : Nat) : Int)
  · rw [if_pos h, if_pos (by omega), if_pos (by omega)]
    simp only [Option.bind_some, Int.toNat_natCast]
    rw [e1]
    by_cases h' : s.data.toList.take 6 = ([98, 121, 116, 101, 115, 61] : List UInt8)
    · rw [if_pos (by rw [h', tl]; rfl), if_pos (by omega), if_pos (by omega), if_pos h', e2]
      rfl
    · rw [if_neg (by simpa [tl] using h'), if_neg h']
      rfl
  · rw [if_neg h]
    have h' : ¬ s.data.toList.take 6 = ([98, 121, 116, 101, 115, 61] : List UInt8) := by
      intro e
      have := congrArg List.length e
      rw [List.length_take, ← size_len] at this
      simp at this
      omega
    simp only [Option.bind_some, Bool.false_eq_true, if_false]
    rw [if_neg h']
theorem preS_size (s : ByteArray) : (preS s).1.size ≤ s.size := by
  have e := size_len s
  unfold preS
  split
  · simp only [size_bsOf, List.length_drop]; omega
  · exact Nat.le_refl _
def rangeS (s : ByteArray) : Bool :=
  if (preS s).2 = true then (if (cutS (preS s).1 (⟨#[45]⟩ : ByteArray)).2.2 = true then (if (digS (cutS (preS s).1 (⟨#[45]⟩ : ByteArray)).1).2 = true then
    (if (cutS (preS s).1 (⟨#[45]⟩ : ByteArray)).2.1.toList = ([] : List UInt8) then true else if (digS (cutS (preS s).1 (⟨#[45]⟩ : ByteArray)).2.1).2 = true then decide ((digS (cutS (preS s).1 (⟨#[45]⟩ : ByteArray)).2.1).1 ≥ (digS (cutS (preS s).1 (⟨#[45]⟩ : ByteArray)).1).1) else false)
    else false) else false) else false
theorem range_ev (s : ByteArray) (hs : s.size ≤ 4294967280) : Ev (fun k => safe_Range.f k s) (rangeS s) := by
  unfold safe_Range.f rangeS
  have h1 := preS_size s
  have h2 := cutS_size (preS s).1 (⟨#[45]⟩ : ByteArray)
  refine evBind (prefix_f s) (evBind (cut_f _ _ (by omega)) (Ev.bind (digits_ev _ (by omega)) ?_))
  exact evIte (fun _ => evIte (fun _ => evIte (fun _ => Ev.bind (digits_ev _ (by omega)) (evIte (fun _ => Ev.now _) fun _ => evIte (fun _ => Ev.now _) fun _ => Ev.now _)) fun _ => Ev.now _) fun _ => Ev.now _) fun _ => Ev.now _
def essS (s : ByteArray) : ByteArray × Bool :=
  if (cutS (trimS (cutS s (⟨#[59]⟩ : ByteArray)).1) (⟨#[47]⟩ : ByteArray)).2.2 = true then (if tokS (cutS (trimS (cutS s (⟨#[59]⟩ : ByteArray)).1) (⟨#[47]⟩ : ByteArray)).1 = true then (if tokS (cutS (trimS (cutS s (⟨#[59]⟩ : ByteArray)).1) (⟨#[47]⟩ : ByteArray)).2.1 = true then (lowB (trimS (cutS s (⟨#[59]⟩ : ByteArray)).1), true) else (⟨#[]⟩, false)) else (⟨#[]⟩, false)) else (⟨#[]⟩, false)
theorem ess_ev (s : ByteArray) (hs : s.size ≤ 4294967280) : Ev (fun k => safe_Essence.f k s) (essS s) := by
  unfold safe_Essence.f essS
  have h1 := cutS_size s (⟨#[59]⟩ : ByteArray)
  have h2 := trimS_size (cutS s (⟨#[59]⟩ : ByteArray)).1
  have h3 := cutS_size (trimS (cutS s (⟨#[59]⟩ : ByteArray)).1) (⟨#[47]⟩ : ByteArray)
  refine evBind (cut_f _ _ (by omega)) (Ev.bind (trim_ev _ (by omega)) (evBind (cut_f _ _ (by omega)) ?_))
  exact evIte (fun _ => Ev.bind (token_ev _ (by omega)) (evIte (fun _ => Ev.bind (token_ev _ (by omega)) (evIte (fun _ => evBind (lower_f _ (by omega)) (Ev.now _)) fun _ => Ev.now _)) fun _ => Ev.now _)) fun _ => Ev.now _
def formS (s : ByteArray) : Bool := if (essS s).1.toList = ([97, 112, 112, 108, 105, 99, 97, 116, 105, 111, 110, 47, 120, 45, 119, 119, 119, 45, 102, 111, 114, 109, 45, 117, 114, 108, 101, 110, 99, 111, 100, 101, 100] : List UInt8) then true else if (essS s).1.toList = ([109, 117, 108, 116, 105, 112, 97, 114, 116, 47, 102, 111, 114, 109, 45, 100, 97, 116, 97] : List UInt8) then true else (essS s).1.toList == ([116, 101, 120, 116, 47, 112, 108, 97, 105, 110] : List UInt8)
theorem form_ev (s : ByteArray) (hs : s.size ≤ 4294967280) : Ev (fun k => safe_isForm.f k s) (formS s) := by
  unfold safe_isForm.f formS
  exact Ev.bind (ess_ev s hs) (evIte (fun _ => Ev.now _) fun _ => evIte (fun _ => Ev.now _) fun _ => Ev.now _)
theorem allB_f (s : ByteArray) (h : s.size ≤ 9223372036854775806) : safe_all.f s 160 = some (allByte s) := by
  unfold safe_all.f
  rw [if_pos h, if_pos rfl]
theorem allW_f (s : ByteArray) (h : s.size ≤ 9223372036854775806) : safe_all.f s 161 = some (allWord s) := by
  unfold safe_all.f
  rw [if_pos h, if_neg (by decide), if_pos rfl]
def jointS (t n : ByteArray) (x : Bool) : Bool := if x = true then allWord t else if n.toList = ([99, 111, 110, 116, 101, 110, 116, 45, 116, 121, 112, 101] : List UInt8) then (if allByte t = true then formS t else false) else if n.toList = ([114, 97, 110, 103, 101] : List UInt8) then rangeS t else false
def safeS (f0 f1 : ByteArray) : Bool :=
  if ((trimS f1).size : Int) > 128 then false
  else if (lowB f0).toList = ([97, 99, 99, 101, 112, 116] : List UInt8) then allByte (trimS f1)
  else if (lowB f0).toList = ([97, 99, 99, 101, 112, 116, 45, 108, 97, 110, 103, 117, 97, 103, 101] : List UInt8) then jointS (trimS f1) (lowB f0) ((lowB f0).toList == ([97, 99, 99, 101, 112, 116, 45, 108, 97, 110, 103, 117, 97, 103, 101] : List UInt8))
  else jointS (trimS f1) (lowB f0) ((lowB f0).toList == ([99, 111, 110, 116, 101, 110, 116, 45, 108, 97, 110, 103, 117, 97, 103, 101] : List UInt8))
theorem header_j0 (t n : ByteArray) (hs : t.size ≤ 4294967280) (x : Bool) : Ev (fun k => safe_Header.j0 k t n x) (jointS t n x) := by
  refine evSucc ?_
  simp only [safe_Header.j0]
  unfold jointS
  exact evIte (fun _ => evBind (allW_f t (by omega)) (Ev.now _)) fun _ => evIte (fun _ => evBind (allB_f t (by omega)) (evIte (fun _ => Ev.bind (form_ev t hs) (Ev.now _)) fun _ => Ev.now _)) fun _ =>
    evIte (fun _ => Ev.bind (range_ev t hs) (Ev.now _)) fun _ => Ev.now _
theorem header_ev (f0 f1 : ByteArray) (h0 : f0.size ≤ 1000000) (h1 : f1.size ≤ 1000000) : Ev (fun k => safe_Header.f k f0 f1) (safeS f0 f1) := by
  unfold safe_Header.f safeS
  have ht := trimS_size f1
  refine Ev.bind (trim_ev f1 (by omega)) (evIte (fun _ => Ev.now _) fun _ => evBind (lower_f f0 (by omega)) ?_)
  exact evIte (fun _ => evBind (allB_f _ (by omega)) (Ev.now _)) fun _ => evIte (fun _ => header_j0 _ _ (by omega) _) fun _ => header_j0 _ _ (by omega) _
def hsafe (h : Hd) : Bool := safeS h.f0 h.f1
def lowN (l : List Hd) : List ByteArray := l.map fun h => lowB h.f0
def unsafeN (l : List Hd) : List ByteArray := lowN (l.filter fun h => !hsafe h)
def safeN (l : List Hd) : List ByteArray := lowN (l.filter hsafe)
def totalN (l : List Hd) : Nat := ((l.filter hsafe).map fun h => (trimS h.f1).size).sum
def snames (l : List Hd) : List ByteArray := if (totalN l : Int) > 1024 then riseB (unsafeN l ++ safeN l) else riseB (unsafeN l)
theorem unsafeN_append (l m : List Hd) : unsafeN (l ++ m) = unsafeN l ++ unsafeN m := by simp [unsafeN, lowN]
theorem safeN_append (l m : List Hd) : safeN (l ++ m) = safeN l ++ safeN m := by simp [safeN, lowN]
theorem totalN_append (l m : List Hd) : totalN (l ++ m) = totalN l + totalN m := by simp [totalN]
theorem unsafeN_length (l : List Hd) : (unsafeN l).length ≤ l.length := by
  have := List.length_filter_le (fun h => !hsafe h) l
  simpa [unsafeN, lowN] using this
theorem safeN_length (l : List Hd) : (safeN l).length ≤ l.length := by
  have := List.length_filter_le hsafe l
  simpa [safeN, lowN] using this
theorem sum_le (l : List Nat) (n : Nat) (h : ∀ x ∈ l, x ≤ n) : l.sum ≤ l.length * n := by
  induction l with
  | nil => simp
  | cons a l ih =>
    have h1 := h a (by simp)
    have h2 := ih fun x hx => h x (by simp [hx])
    simp only [List.sum_cons, List.length_cons, Nat.add_mul]
    omega
theorem totalN_le {l : List Hd} (hl : HOk l) : totalN l ≤ 1000000000 := by
  unfold totalN
  have h1 := sum_le ((l.filter hsafe).map fun h => (trimS h.f1).size) 1000000 (fun x hx => by
    obtain ⟨h, hm, rfl⟩ := List.mem_map.1 hx
    have := trimS_size h.f1
    have := (hl.2 h (List.mem_filter.1 hm).1).2
    omega)
  have h2 := List.length_filter_le hsafe l
  have h3 := hl.1
  rw [List.length_map] at h1
  have : (l.filter hsafe).length * 1000000 ≤ 1000 * 1000000 := Nat.mul_le_mul_right _ (by omega)
  omega
theorem HOk.left {l m : List Hd} (h : HOk (l ++ m)) : HOk l := ⟨by have := h.1; rw [List.length_append] at this; omega, fun x hx => h.2 x (List.mem_append_left _ hx)⟩
theorem snames_l0 (l : List Hd) (hl : HOk l) (r : List Hd) : ∀ p, p ++ r = l →
    Ev (fun k => safe_Names.l0 k (unsafeN p) (safeN p) (totalN p : Int) l (l.length : Int) (p.length : Int)) (snames l) := by
  have h1 := hl.1
  induction r with
  | nil =>
    intro p hp
    rw [List.append_nil] at hp
    subst hp
    have hu := unsafeN_length p
    have hs := safeN_length p
    refine evSucc ?_
    simp only [safe_Names.l0]
    refine evNeg (by omega) ?_
    unfold snames
    refine evIte (fun h => evPos (by omega) (evBind (sort_f _ (by rw [List.length_append]; omega)) (evBind (compact_f _ ?_) ?_))) (fun h => evBind (sort_f _ (by omega)) (evBind (compact_f _ ?_) ?_))
    · rw [sortB_length, List.length_append]; omega
    · rw [sortCompact]; exact Ev.now _
    · rw [sortB_length]; omega
    · rw [sortCompact]; exact Ev.now _
  | cons h r ih =>
    intro p hp
    have hlen : l.length = p.length + (r.length + 1) := by rw [← hp]; simp
    have hh := hl.2 h (by rw [← hp]; simp)
    have hr : rd_T28 l (p.length : Int) = h := by rw [← hp]; exact rd_mid p h r
    have e2 : wrap64 ((p.length : Int) + 1) = ((p ++ [h]).length : Int) := by simp; unfold wrap64; omega
    have hp' : (p ++ [h]) ++ r = l := by simpa using hp
    have hpo : HOk p := by rw [← hp] at hl; exact hl.left
    have ht := totalN_le hpo
    have hu := unsafeN_length p
    have hs := safeN_length p
    have htr := trimS_size h.f1
    have ih' := ih (p ++ [h]) hp'
    rw [unsafeN_append, safeN_append, totalN_append] at ih'
    refine evSucc ?_
    simp only [safe_Names.l0, hr, e2]
    refine evPos (by omega) (evPos (by omega) (evPos (by omega) (Ev.bind (header_ev _ _ hh.1 hh.2) ?_)))
    cases hd : safeS h.f0 h.f1 with
    | true =>
      refine evPos rfl (Ev.bind (trim_ev _ (by omega)) (evBind (lower_f _ (by omega)) (evPos (by omega) ?_)))
      have e3 : wrap64 ((totalN p : Int) + ((trimS h.f1).size : Int)) = ((totalN p + totalN [h] : Nat) : Int) := by
        have : totalN [h] = (trimS h.f1).size := by simp [totalN, hsafe, hd]
        rw [this]
        unfold wrap64
        omega
      rw [e3]
      have e4 : unsafeN [h] = [] := by simp [unsafeN, lowN, hsafe, hd]
      have e5 : safeN [h] = [lowB h.f0] := by simp [safeN, lowN, hsafe, hd]
      rw [e4, e5, List.append_nil] at ih'
      exact ih'
    | false =>
      refine evNeg (by decide) (evBind (lower_f _ (by omega)) (evPos (by omega) ?_))
      have e3 : totalN [h] = 0 := by simp [totalN, hsafe, hd]
      have e4 : unsafeN [h] = [lowB h.f0] := by simp [unsafeN, lowN, hsafe, hd]
      have e5 : safeN [h] = [] := by simp [safeN, lowN, hsafe, hd]
      rw [e3, e4, e5, List.append_nil, Nat.add_zero] at ih'
      exact ih'
theorem snames_ev (l : List Hd) (hl : HOk l) : Ev (fun k => safe_Names.f k l) (snames l) := by
  have := snames_l0 l hl l [] rfl
  simpa [safe_Names.f, unsafeN, safeN, totalN, lowN] using this
theorem snames_sub (l : List Hd) : ∀ x ∈ snames l, x ∈ namesS l := by
  intro x hx
  rw [namesS_mem]
  have h1 : x ∈ unsafeN l ++ safeN l := by
    unfold snames at hx
    split at hx
    · exact (riseB_mem _ _).1 hx
    · exact List.mem_append_left _ ((riseB_mem _ _).1 hx)
  rcases List.mem_append.1 h1 with h1 | h1
  all_goals
    obtain ⟨h, hm, e⟩ := List.mem_map.1 h1
    exact ⟨h, (List.mem_filter.1 hm).1, e⟩
theorem snames_length (l : List Hd) : (snames l).length ≤ l.length := by
  have h : ∀ m : List Hd, (unsafeN m).length + (safeN m).length = m.length := by
    intro m
    simp only [unsafeN, safeN, lowN, List.length_map]
    induction m with
    | nil => rfl
    | cons a m ih =>
      cases ha : hsafe a with
      | true => simp [ha] at ih ⊢; omega
      | false => simp [ha] at ih ⊢; omega
  have h0 := h l
  unfold snames
  split
  · have := riseB_length (unsafeN l ++ safeN l)
    rw [List.length_append] at this
    omega
  · have := riseB_length (unsafeN l)
    omega
def hasLine (s : ByteArray) : Bool := decide (0 ≤ Lib.indexAny s.data.toList (⟨#[0, 10, 13]⟩ : ByteArray).data.toList)
theorem line_f (s : ByteArray) (h : s.size < 4294967281) : strings_ContainsAny.f s (⟨#[0, 10, 13]⟩ : ByteArray) = some (hasLine s) := by
  unfold strings_ContainsAny.f
  rw [if_pos ⟨by decide, by decide, h, by decide⟩]
  rfl
def isHS (f0 f1 : ByteArray) : Bool := if tokS f0 = true then (if (f0.size : Int) ≤ 64 then (if ((trimS f1).size : Int) ≤ 4096 then !hasLine (trimS f1) else false) else false) else false
theorem isHeader_ev (f0 f1 : ByteArray) (h0 : f0.size ≤ 1000000) (h1 : f1.size ≤ 1000000) : Ev (fun k => header_isHeader.f k f0 f1) (isHS f0 f1) := by
  unfold header_isHeader.f isHS
  have ht := trimS_size f1
  exact Ev.bind (trim_ev f1 (by omega)) (Ev.bind (token_ev f0 (by omega)) (evIte (fun _ => evIte (fun _ => evIte (fun _ => evBind (line_f _ (by omega)) (Ev.now _)) fun _ => Ev.now _) fun _ => Ev.now _) fun _ => Ev.now _))
def goodH (h : Hd) : Bool := isHS h.f0 h.f1
def checkS (l : List Hd) : Int := if (l.length : Int) > 32 then 4 else if l.all goodH = true then 0 else 6
theorem check_l0 (l : List Hd) (hl : HOk l) (r : List Hd) : ∀ p, p ++ r = l →
    Ev (fun k => header_Check.l0 k l (l.length : Int) (p.length : Int)) (if r.all goodH = true then 0 else 6) := by
  have h1 := hl.1
  induction r with
  | nil =>
    intro p hp
    rw [List.append_nil] at hp
    subst hp
    refine evSucc ?_
    simp only [header_Check.l0]
    exact evNeg (by omega) (Ev.now _)
  | cons h r ih =>
    intro p hp
    have hlen : l.length = p.length + (r.length + 1) := by rw [← hp]; simp
    have hh := hl.2 h (by rw [← hp]; simp)
    have hr : rd_T28 l (p.length : Int) = h := by rw [← hp]; exact rd_mid p h r
    have e2 : wrap64 ((p.length : Int) + 1) = ((p ++ [h]).length : Int) := by simp; unfold wrap64; omega
    have ih' := ih (p ++ [h]) (by simpa using hp)
    refine evSucc ?_
    simp only [header_Check.l0, hr, e2]
    refine evPos (by omega) (evPos (by omega) (evPos (by omega) (Ev.bind (isHeader_ev _ _ hh.1 hh.2) ?_)))
    rw [List.all_cons]
    cases hg : isHS h.f0 h.f1 with
    | true =>
      rw [show goodH h = true from hg, Bool.true_and]
      exact evPos rfl ih'
    | false =>
      rw [show goodH h = false from hg, Bool.false_and]
      exact evNeg (by decide) (Ev.now _)
theorem check_ev (l : List Hd) (hl : HOk l) : Ev (fun k => header_Check.f k l) (checkS l) := by
  unfold header_Check.f checkS
  refine evIte (fun _ => Ev.now _) fun _ => ?_
  have := check_l0 l hl l [] rfl
  simpa using this
def normH (h : Hd) : Hd := ⟨lowB h.f0, trimS h.f1⟩
def normS (l : List Hd) : List Hd := l.map normH
theorem norm_l0 (l : List Hd) (hl : HOk l) (r : List Hd) : ∀ p, p ++ r = l → Ev (fun k => header_Norm.l0 k (normS p) l (l.length : Int) (p.length : Int)) (normS l) := by
  have h1 := hl.1
  induction r with
  | nil =>
    intro p hp
    rw [List.append_nil] at hp
    subst hp
    refine evSucc ?_
    simp only [header_Norm.l0]
    exact evNeg (by omega) (Ev.now _)
  | cons h r ih =>
    intro p hp
    have hlen : l.length = p.length + (r.length + 1) := by rw [← hp]; simp
    have hh := hl.2 h (by rw [← hp]; simp)
    have hr : rd_T28 l (p.length : Int) = h := by rw [← hp]; exact rd_mid p h r
    have e2 : wrap64 ((p.length : Int) + 1) = ((p ++ [h]).length : Int) := by simp; unfold wrap64; omega
    refine evSucc ?_
    simp only [header_Norm.l0, hr, e2]
    refine evPos (by omega) (evPos (by omega) (evPos (by omega) (evBind (lower_f _ (by omega)) (Ev.bind (trim_ev _ (by omega)) (evPos (by simp [normS]; omega) ?_)))))
    have := ih (p ++ [h]) (by simpa using hp)
    rw [show normS (p ++ [h]) = normS p ++ [normH h] by simp [normS]] at this
    exact this
theorem norm_ev (l : List Hd) (hl : HOk l) : Ev (fun k => header_Norm.f k l) (normS l) := by
  have := norm_l0 l hl l [] rfl
  simpa [header_Norm.f, normS] using this
def keepT (l : List Bs) : List ByteArray := ((l.map trimL).filter fun x => x != []).map bsOf
theorem keepT_append (a b : List Bs) : keepT (a ++ b) = keepT a ++ keepT b := by simp [keepT]
def splitS (s : ByteArray) : List ByteArray := keepT (splitC 44 s.data.toList)
theorem split_f (s : ByteArray) (h : s.size < 4294967281) : strings_Split.f s (⟨#[44]⟩ : ByteArray) = some (splitL s (⟨#[44]⟩ : ByteArray)) := by
  unfold strings_Split.f
  rw [if_pos ⟨h, rfl⟩]
theorem keepT_length (l : List Bs) : (keepT l).length ≤ l.length := by
  have := List.length_filter_le (fun x : Bs => x != []) (l.map trimL)
  simpa [keepT] using this
theorem osplit_l0 (l : List ByteArray) (hl : l.length ≤ 1000000000) (hs : ∀ x ∈ l, x.size ≤ 4611686018427387904) : ∀ n i, i + n = l.length →
    Ev (fun k => octet_Split.l0 k (keepT ((l.take i).map (·.data.toList))) l (l.length : Int) (i : Int)) (keepT (l.map (·.data.toList))) := by
  intro n
  induction n with
  | zero =>
    intro i hi
    refine evSucc ?_
    simp only [octet_Split.l0]
    refine evNeg (by omega) (evEq (Ev.now _) ?_)
    rw [List.take_of_length_le (by omega)]
  | succ n ih =>
    intro i hi
    have hlt : i < l.length := by omega
    have e2 : wrap64 ((i : Int) + 1) = ((i + 1 : Nat) : Int) := by unfold wrap64; omega
    have ih' := ih (i + 1) (by omega)
    rw [List.take_succ_eq_append_getElem hlt, List.map_append, keepT_append] at ih'
    have hk := keepT_length ((l.take i).map (·.data.toList))
    rw [List.length_map, List.length_take] at hk
    refine evSucc ?_
    simp only [octet_Split.l0, e2]
    rw [rdOf_get _ _ hlt]
    refine evPos (by omega) (evPos (by omega) (evPos (by omega) (Ev.bind (trim_ev _ (hs _ (List.getElem_mem hlt))) ?_)))
    rw [tl]
    by_cases hz : (trimS l[i]).data.toList = []
    · refine evPos hz ?_
      have : keepT (([l[i]] : List ByteArray).map (·.data.toList)) = [] := by
        have hz' : trimL l[i].data.toList = [] := hz
        simp [keepT, hz']
      rw [this, List.append_nil] at ih'
      exact ih'
    · refine evNeg hz (evPos (by omega) ?_)
      have : keepT (([l[i]] : List ByteArray).map (·.data.toList)) = [trimS l[i]] := by
        have hz' : ¬ trimL l[i].data.toList = [] := hz
        simp [keepT, hz', trimS]
      rw [this] at ih'
      exact ih'
theorem osplit_ev (s : ByteArray) (h : s.size ≤ 100000000) : Ev (fun k => octet_Split.f k s) (splitS s) := by
  unfold octet_Split.f
  have hd := splitL_data 44 _ s rfl
  have hc : Lib.countB s ⟨#[44]⟩ ≤ s.size := Lib.countB_le (⟨#[44]⟩ : ByteArray) (Nat.le_refl 1) s.size s (Nat.le_refl _)
  have hl := splitL_length s 44
  have hall : ∀ (k : Nat) (s : ByteArray), ∀ x ∈ Lib.splitB (⟨#[44]⟩ : ByteArray) 0 k s, x.size ≤ s.size := by
    intro k
    induction k with
    | zero => intro s x hx; rw [Lib.splitB_zero, List.mem_singleton] at hx; rw [hx]; exact Nat.le_refl _
    | succ k ih =>
      intro s x hx
      unfold Lib.splitB at hx
      split at hx
      · rw [List.mem_singleton] at hx; rw [hx]; exact Nat.le_refl _
      · rcases List.mem_cons.1 hx with hx | hx
        · rw [hx, ByteArray.size_extract]; omega
        · have := ih _ x hx
          rw [ByteArray.size_extract] at this
          omega
  refine evBind (split_f s (by omega)) ?_
  have := osplit_l0 (splitL s ⟨#[44]⟩) (by omega) (fun x hx => by have := hall _ s x hx; omega) (splitL s ⟨#[44]⟩).length 0 (by omega)
  rw [show (splitL s ⟨#[44]⟩).map (·.data.toList) = splitC 44 s.data.toList from hd] at this
  simpa [keepT, splitS] using this
def HT (l : List Hd) : Prop := l.length ≤ 200 ∧ ∀ h ∈ l, h.f0.size ≤ 100000 ∧ h.f1.size ≤ 100000
theorem HT.ok {l : List Hd} (h : HT l) : HOk l := ⟨by have := h.1; omega, fun x hx => by have := h.2 x hx; omega⟩
theorem HT.get {l : List Hd} (h : HT l) (name : ByteArray) : (getS l name).1.size ≤ 100000000 := by
  have h1 := joinS_size (vals l name) 100000 (fun s hs => by
    obtain ⟨x, hx, rfl⟩ := List.mem_map.1 hs
    have := trimS_size x.f1
    have := (h.2 x (List.mem_filter.1 hx).1).2
    omega)
  have h2 := vals_length l name
  have h3 := h.1
  have : (vals l name).length * (100000 + 2) ≤ 200 * (100000 + 2) := Nat.mul_le_mul_right _ (by omega)
  show (joinS (vals l name)).size ≤ _
  omega
theorem splitC_len (c : UInt8) (l : Bs) : (∀ y ∈ splitC c l, y.length ≤ l.length) ∧ (splitC c l).length ≤ l.length + 1 := by
  induction l with
  | nil => simp [splitC]
  | cons b l ih =>
    rw [splitC]
    split
    · refine ⟨fun y hy => ?_, by simpa using ih.2⟩
      rcases List.mem_cons.1 hy with rfl | hy
      · simp
      · have := ih.1 y hy; simp; omega
    · split
      · refine ⟨fun y hy => ?_, by simp⟩
        rw [List.mem_singleton.1 hy]; simp
      · rename_i x xs e
        rw [e] at ih
        refine ⟨fun y hy => ?_, by have := ih.2; simp at this ⊢; omega⟩
        rcases List.mem_cons.1 hy with rfl | hy
        · have := ih.1 x (by simp); simp; omega
        · have := ih.1 y (by simp [hy]); simp; omega
theorem splitS_length (s : ByteArray) : (splitS s).length ≤ s.size + 1 := by
  have h1 := keepT_length (splitC 44 s.data.toList)
  have h2 := (splitC_len 44 s.data.toList).2
  rw [← size_len] at h2
  unfold splitS
  omega
theorem splitS_size (s : ByteArray) : ∀ x ∈ splitS s, x.size ≤ s.size := by
  intro x hx
  obtain ⟨y, hy, rfl⟩ := List.mem_map.1 hx
  obtain ⟨z, hz, rfl⟩ := List.mem_map.1 (List.mem_filter.1 hy).1
  have h1 := (splitC_len 44 s.data.toList).1 z hz
  have h2 := trimL_length z
  rw [size_bsOf, size_len]
  omega
def toksS (l : List Hd) (name : ByteArray) : List ByteArray × Bool := if (splitS (getS l name).1).all tokS = true then (splitS (getS l name).1, true) else ([], false)
theorem tokens_l0 (L : List ByteArray) (hL : L.length ≤ 1000000000) (hs : ∀ x ∈ L, x.size ≤ 4611686018427387904) : ∀ n i, i + n = L.length →
    Ev (fun k => allow_tokens.l0 k L L (L.length : Int) (i : Int)) (if (L.drop i).all tokS = true then (L, true) else ([], false)) := by
  intro n
  induction n with
  | zero =>
    intro i hi
    rw [List.drop_of_length_le (by omega), List.all_nil, if_pos rfl]
    refine evSucc ?_
    simp only [allow_tokens.l0]
    exact evNeg (by omega) (Ev.now _)
  | succ n ih =>
    intro i hi
    have hlt : i < L.length := by omega
    have e2 : wrap64 ((i : Int) + 1) = ((i + 1 : Nat) : Int) := by unfold wrap64; omega
    rw [List.drop_eq_getElem_cons hlt, List.all_cons]
    refine evSucc ?_
    simp only [allow_tokens.l0, e2]
    rw [rdOf_get _ _ hlt]
    refine evPos (by omega) (evPos (by omega) (evPos (by omega) (Ev.bind (token_ev _ (hs _ (List.getElem_mem hlt))) ?_)))
    cases h : tokS L[i] with
    | true => rw [Bool.true_and]; exact evPos rfl (ih (i + 1) (by omega))
    | false => rw [Bool.false_and]; exact evNeg (by decide) (Ev.now _)
theorem toks_ev (l : List Hd) (name : ByteArray) (hl : HT l) (hn : name.size ≤ 1000000) : Ev (fun k => allow_tokens.f k l name) (toksS l name) := by
  unfold allow_tokens.f toksS
  have h1 := hl.get name
  have h2 := splitS_length (getS l name).1
  have h3 := splitS_size (getS l name).1
  refine Ev.bind (get_ev l name hl.ok hn) (Ev.bind (osplit_ev _ h1) ?_)
  have := tokens_l0 (splitS (getS l name).1) (by omega) (fun x hx => by have := h3 x hx; omega) (splitS (getS l name).1).length 0 (by omega)
  simpa using this
def sMeths : ByteArray := (⟨#[97, 99, 99, 101, 115, 115, 45, 99, 111, 110, 116, 114, 111, 108, 45, 97, 108, 108, 111, 119, 45, 109, 101, 116, 104, 111, 100, 115]⟩ : ByteArray)
def sHeads : ByteArray := (⟨#[97, 99, 99, 101, 115, 115, 45, 99, 111, 110, 116, 114, 111, 108, 45, 97, 108, 108, 111, 119, 45, 104, 101, 97, 100, 101, 114, 115]⟩ : ByteArray)
def sAge : ByteArray := (⟨#[97, 99, 99, 101, 115, 115, 45, 99, 111, 110, 116, 114, 111, 108, 45, 109, 97, 120, 45, 97, 103, 101]⟩ : ByteArray)
def ageS (v : ByteArray) : Int := if (digS (trimS v)).2 = true then mn (digS (trimS v)).1 7200 else 5
abbrev RT : Type := List ByteArray × List ByteArray × Int × Int
def readS (l : List Hd) : RT :=
  if (toksS l sMeths).2 = true then (if (toksS l sHeads).2 = true then ((toksS l sMeths).1, (toksS l sHeads).1.map lowB, ageS (getS l sAge).1, 0) else ([], [], 0, 6)) else ([], [], 0, 5)
theorem read_l0 (l : List Hd) (hl : HT l) (M L : List ByteArray) (hL : L.length ≤ 1000000000) (hs : ∀ x ∈ L, x.size ≤ 4611686018427387904) : ∀ n i, i + n = L.length →
    Ev (fun k => allow_Read.l0 k l M ((L.take i).map lowB ++ L.drop i) (L.length : Int) (i : Int)) (M, L.map lowB, ageS (getS l sAge).1, 0) := by
  intro n
  induction n with
  | zero =>
    intro i hi
    rw [List.drop_of_length_le (by omega), List.append_nil, List.take_of_length_le (by omega)]
    have h1 := hl.get sAge
    have h2 := trimS_size (getS l sAge).1
    refine evSucc ?_
    simp only [allow_Read.l0]
    refine evNeg (by omega) (Ev.bind (get_ev l sAge hl.ok (by decide)) (Ev.bind (trim_ev _ (by omega)) (Ev.bind (digits_ev _ (by omega)) ?_)))
    unfold ageS
    by_cases h : (digS (trimS (getS l sAge).1)).2 = true
    · refine evPos h ?_
      rw [if_pos h]; exact Ev.now _
    · refine evNeg h ?_
      rw [if_neg h]; exact Ev.now _
  | succ n ih =>
    intro i hi
    have hlt : i < L.length := by omega
    have e2 : wrap64 ((i : Int) + 1) = ((i + 1 : Nat) : Int) := by unfold wrap64; omega
    have hlen : ((L.take i).map lowB ++ L.drop i).length = L.length := by simp; omega
    have hg : ((L.take i).map lowB ++ L.drop i)[i]'(by omega) = L[i] := by
      rw [List.getElem_append_right (by simp; omega)]
      simp [List.length_take, Nat.min_eq_left (Nat.le_of_lt hlt)]
    have hset : ((L.take i).map lowB ++ L.drop i).set ((i : Int)).toNat (lowB L[i]) = (L.take (i + 1)).map lowB ++ L.drop (i + 1) := by
      rw [Int.toNat_natCast, List.set_append_right _ _ (by simp; omega), List.drop_eq_getElem_cons hlt]
      simp only [List.length_map, List.length_take, Nat.min_eq_left (Nat.le_of_lt hlt), Nat.sub_self, List.set_cons_zero]
      rw [List.take_succ_eq_append_getElem hlt, List.map_append, List.append_assoc]
      rfl
    have ih' := ih (i + 1) (by omega)
    rw [← hset] at ih'
    refine evSucc ?_
    simp only [allow_Read.l0, e2]
    rw [rdOf_get _ _ (by omega : i < ((L.take i).map lowB ++ L.drop i).length), hg]
    have hz := hs _ (List.getElem_mem hlt)
    exact evPos (by omega) (evPos (by omega) (evPos (by omega) (evBind (lower_f _ (by omega)) ih')))
theorem read_ev (l : List Hd) (hl : HT l) : Ev (fun k => allow_Read.f k l) (readS l) := by
  unfold allow_Read.f readS
  refine Ev.bind (toks_ev l sMeths hl (by decide)) (evIte (fun _ => Ev.bind (toks_ev l sHeads hl (by decide)) (evIte (fun h => ?_) fun _ => Ev.now _)) fun _ => Ev.now _)
  have h1 := hl.get sHeads
  have h2 := splitS_length (getS l sHeads).1
  have h3 := splitS_size (getS l sHeads).1
  have e : (toksS l sHeads).1 = splitS (getS l sHeads).1 := by
    unfold toksS at h ⊢
    split at h
    · rename_i hh; rw [if_pos hh]
    · cases h
  rw [e]
  have := read_l0 l hl (toksS l sMeths).1 (splitS (getS l sHeads).1) (by omega) (fun x hx => by have := h3 x hx; omega) (splitS (getS l sHeads).1).length 0 (by omega)
  simpa using this
def knowns : List ByteArray := [(⟨#[68, 69, 76, 69, 84, 69]⟩ : ByteArray), (⟨#[71, 69, 84]⟩ : ByteArray), (⟨#[72, 69, 65, 68]⟩ : ByteArray), (⟨#[79, 80, 84, 73, 79, 78, 83]⟩ : ByteArray), (⟨#[80, 79, 83, 84]⟩ : ByteArray), (⟨#[80, 85, 84]⟩ : ByteArray)]
def knownGo (s : ByteArray) : List ByteArray → ByteArray
  | [] => ⟨#[]⟩
  | m :: r => if foldB s m = true then m else knownGo s r
theorem known_l0 (s : ByteArray) (hs : s.size ≤ 9223372036854775807) : ∀ n i : Nat, i + n = 6 → Ev (fun k => method_known.l0 k s (i : Int)) (knownGo s (knowns.drop i)) := by
  intro n
  induction n with
  | zero =>
    intro i hi
    rw [List.drop_of_length_le (by show 6 ≤ i; omega), knownGo]
    refine evSucc ?_
    simp only [method_known.l0]
    exact evNeg (by omega) (Ev.now _)
  | succ n ih =>
    intro i hi
    have hlt : i < knowns.length := by show i < 6; omega
    have e2 : wrap64 ((i : Int) + 1) = ((i + 1 : Nat) : Int) := by unfold wrap64; omega
    have hz : ∀ m ∈ knowns, m.size ≤ 7 := by decide
    have hm := hz _ (List.getElem_mem hlt)
    rw [List.drop_eq_getElem_cons hlt, knownGo]
    refine evSucc ?_
    have e3 : rdOf ByteArray.empty ([(⟨#[68, 69, 76, 69, 84, 69]⟩ : ByteArray), (⟨#[71, 69, 84]⟩ : ByteArray), (⟨#[72, 69, 65, 68]⟩ : ByteArray), (⟨#[79, 80, 84, 73, 79, 78, 83]⟩ : ByteArray), (⟨#[80, 79, 83, 84]⟩ : ByteArray), (⟨#[80, 85, 84]⟩ : ByteArray)] : List ByteArray) (i : Int) = knowns[i] := rdOf_get _ _ hlt
    simp only [method_known.l0, e2, e3]
    refine evPos (by omega) (evPos (by omega) (evBind (fold_f _ _ hs (by omega)) ?_))
    exact evIte (fun _ => Ev.now _) fun _ => ih (i + 1) (by omega)
theorem known_ev (s : ByteArray) (hs : s.size ≤ 9223372036854775807) : Ev (fun k => method_known.f k s) (knownGo s knowns) := known_l0 s hs 6 0 rfl
def safeM (s : ByteArray) : Bool := if (knownGo s knowns).toList = ([71, 69, 84] : List UInt8) then true else if (knownGo s knowns).toList = ([72, 69, 65, 68] : List UInt8) then true else if (knownGo s knowns).toList = ([80, 79, 83, 84] : List UInt8) then true else false
theorem safeM_ev (s : ByteArray) (hs : s.size ≤ 9223372036854775807) : Ev (fun k => method_Safe.f k s) (safeM s) := by
  unfold method_Safe.f safeM
  exact Ev.bind (known_ev s hs) (evIte (fun _ => Ev.now _) fun _ => evIte (fun _ => Ev.now _) fun _ => evIte (fun _ => Ev.now _) fun _ => Ev.now _)
theorem contains_f (l : List ByteArray) (x : ByteArray) (h : l.length ≤ 9223372036854775807) : slices_Contains_string_string.f l x = some (Lib.containsS l x) := by
  unfold slices_Contains_string_string.f
  rw [if_pos h]
def sStar : ByteArray := (⟨#[42]⟩ : ByteArray)
def hasS (M : List ByteArray) (m : ByteArray) (creds : Bool) : Bool := if safeM m = true then true else if Lib.containsS M m = true then true else if creds = true then false else Lib.containsS M sStar
theorem has_ev (M H : List ByteArray) (age : Int) (m : ByteArray) (creds : Bool) (hM : M.length ≤ 9223372036854775807) (hm : m.size ≤ 9223372036854775807) : Ev (fun k => allow_Has.f k M H age m creds) (hasS M m creds) := by
  unfold allow_Has.f hasS
  exact Ev.bind (safeM_ev m hm) (evIte (fun _ => Ev.now _) fun _ => evBind (contains_f M m hM) (evIte (fun _ => Ev.now _) fun _ => evIte (fun _ => Ev.now _) fun _ => evBind (contains_f M sStar hM) (Ev.now _)))
def covS (H : List ByteArray) (n : ByteArray) (creds : Bool) : Bool := if Lib.containsS H (lowB n) = true then true else if creds = true then false else if (lowB n).toList = ([97, 117, 116, 104, 111, 114, 105, 122, 97, 116, 105, 111, 110] : List UInt8) then false else Lib.containsS H sStar
theorem cov_f (M H : List ByteArray) (age : Int) (n : ByteArray) (creds : Bool) (hH : H.length ≤ 9223372036854775807) (hn : n.size ≤ 9223372036854775807) : allow_Covers.f M H age n creds = some (covS H n creds) := by
  unfold allow_Covers.f covS
  rw [lower_f n hn]
  simp only [Option.bind_some]
  rw [contains_f H _ hH, contains_f H _ hH]
  simp only [Option.bind_some]
  repeat' split
  all_goals first | rfl | simp_all [lowB, sStar]
def barsS (s : ByteArray) : Bool := if foldB s (⟨#[67, 79, 78, 78, 69, 67, 84]⟩ : ByteArray) = true then true else if foldB s (⟨#[84, 82, 65, 67, 69]⟩ : ByteArray) = true then true else foldB s (⟨#[84, 82, 65, 67, 75]⟩ : ByteArray)
theorem bars_f (s : ByteArray) (h : s.size ≤ 1000) : method_Bars.f s = some (barsS s) := by
  unfold method_Bars.f barsS
  rw [fold_f s _ (by omega) (by decide), fold_f s _ (by omega) (by decide), fold_f s _ (by omega) (by decide)]
  simp only [Option.bind_some]
  repeat' split
  all_goals first | rfl | simp_all
def methS (s : ByteArray) : Int := if tokS s = true then (if (s.size : Int) > 32 then 5 else if barsS s = true then 5 else 0) else 5
theorem mchk_ev (s : ByteArray) (h : s.size ≤ 1000) : Ev (fun k => method_Check.f k s) (methS s) := by
  unfold method_Check.f methS
  exact Ev.bind (token_ev s (by omega)) (evIte (fun _ => evIte (fun _ => Ev.now _) fun _ => evBind (bars_f s h) (evIte (fun _ => Ev.now _) fun _ => Ev.now _)) fun _ => Ev.now _)
def mnormS (s : ByteArray) : ByteArray := if (knownGo s knowns).toList = ([] : List UInt8) then s else knownGo s knowns
theorem mnorm_ev (s : ByteArray) (h : s.size ≤ 1000) : Ev (fun k => method_Norm.f k s) (mnormS s) := by
  unfold method_Norm.f mnormS
  exact Ev.bind (known_ev s (by omega)) (evIte (fun _ => Ev.now _) fun _ => Ev.now _)
def RS (m u o : ByteArray) (l : List Hd) : Prop := m.size ≤ 1000 ∧ u.size ≤ 1000 ∧ o.size ≤ 1000 ∧ HOk l
def modeS (m : Int) : Bool := if m = 1 then true else if m = 2 then true else m == 3
theorem mode_f (m : Int) : ask_isMode.f m = some (modeS m) := by
  unfold ask_isMode.f modeS
  repeat' split
  all_goals rfl
def plainS (m : ByteArray) (l : List Hd) : Bool := if safeM m = true then ((snames l).length : Int) == 0 else false
theorem plain_ev (m u o : ByteArray) (mode : Int) (creds : Bool) (l : List Hd) (cls tmo grp sig : Int) (h : RS m u o l) : Ev (fun k => ask_plain.f k m u o mode creds l cls tmo grp sig) (plainS m l) := by
  obtain ⟨h1, h2, h3, h4⟩ := h
  unfold ask_plain.f plainS
  exact Ev.bind (safeM_ev m (by omega)) (evIte (fun _ => Ev.bind (snames_ev l h4) (Ev.now _)) fun _ => Ev.now _)
def lastS (b : Bool) (tmo grp sig : Int) : Int := if b = true then 8 else if tmo > 600 then 9 else if grp < 0 then 2 else if sig < 0 then 2 else 0
def fieldS (m : ByteArray) (mode : Int) (l : List Hd) (cls tmo grp sig : Int) : Int :=
  if methS m = 0 then (if modeS mode = true then (if checkS l = 0 then (if cls < 1 then lastS true tmo grp sig else lastS (decide (cls > 6)) tmo grp sig) else checkS l) else 7) else methS m
theorem fields_j0 (b : Bool) (m u o : ByteArray) (mode : Int) (creds : Bool) (l : List Hd) (cls tmo grp sig : Int) : Ev (fun k => ask_fields.j0 k b m u o mode creds l cls tmo grp sig) (lastS b tmo grp sig) := by
  refine evSucc ?_
  simp only [ask_fields.j0]
  unfold lastS
  exact evIte (fun _ => Ev.now _) fun _ => evIte (fun _ => Ev.now _) fun _ => evIte (fun _ => Ev.now _) fun _ => evIte (fun _ => Ev.now _) fun _ => Ev.now _
theorem fields_ev (m u o : ByteArray) (mode : Int) (creds : Bool) (l : List Hd) (cls tmo grp sig : Int) (h : RS m u o l) : Ev (fun k => ask_fields.f k m u o mode creds l cls tmo grp sig) (fieldS m mode l cls tmo grp sig) := by
  obtain ⟨h1, h2, h3, h4⟩ := h
  unfold ask_fields.f fieldS
  exact Ev.bind (mchk_ev m h1) (evIte (fun _ => evBind (mode_f mode) (evIte (fun _ => Ev.bind (check_ev l h4) (evIte (fun _ => evIte (fun _ => fields_j0 _ _ _ _ _ _ _ _ _ _ _) fun _ => fields_j0 _ _ _ _ _ _ _ _ _ _ _) fun _ => Ev.now _)) fun _ => Ev.now _)) fun _ => Ev.now _)
def unlikeS (u : UT) (o : OT) : Bool := !(u.1.toList == o.1.toList) || (!(u.2.1.toList == o.2.1.toList) || (!(u.2.2.1 == o.2.2.1)))
def modesS (m u o : ByteArray) (mode : Int) (l : List Hd) : Int :=
  if mode = 1 then (if unlikeS (tparseS u) (parseS o) = true then 7 else 0) else if mode = 2 then (if plainS m l = true then 0 else 7) else 0
def askS (m u o : ByteArray) (mode : Int) (l : List Hd) (cls tmo grp sig : Int) : Int :=
  if (tparseS u).2.2.2.2.2 = 0 then (if (parseS o).2.2.2 = 0 then (if fieldS m mode l cls tmo grp sig = 0 then modesS m u o mode l else fieldS m mode l cls tmo grp sig) else (parseS o).2.2.2) else (tparseS u).2.2.2.2.2
theorem achk_ev (m u o : ByteArray) (mode : Int) (creds : Bool) (l : List Hd) (cls tmo grp sig : Int) (h : RS m u o l) : Ev (fun k => ask_Check.f k m u o mode creds l cls tmo grp sig) (askS m u o mode l cls tmo grp sig) := by
  have h' := h
  obtain ⟨h1, h2, h3, h4⟩ := h
  unfold ask_Check.f askS
  refine Ev.bind (tparse_ev u (by omega)) (evIte (fun _ => Ev.bind (parse_ev o (by omega)) (evIte (fun _ => Ev.bind (fields_ev m u o mode creds l cls tmo grp sig h') (evIte (fun _ => ?_) fun _ => Ev.now _)) fun _ => Ev.now _)) fun _ => Ev.now _)
  unfold modesS
  refine evIte (fun e => ?_) fun _ => evIte (fun _ => Ev.bind (plain_ev m u o mode creds l cls tmo grp sig h') (evIte (fun _ => Ev.now _) fun _ => Ev.now _)) fun _ => Ev.now _
  exact evIte (fun _ => Ev.now _) fun _ => evNeg (by omega) (Ev.now _)
abbrev PT : Type := ByteArray × ByteArray × Int × ByteArray × ByteArray × ByteArray × ByteArray × Int × Bool
def partS (m u o : ByteArray) (mode : Int) (l : List Hd) (cls tmo grp sig : Int) : PT :=
  if askS m u o mode l cls tmo grp sig = 0 then ((tparseS u).1, (tparseS u).2.1, (tparseS u).2.2.1, (tparseS u).2.2.2.1, (tparseS u).2.2.2.2.1, (parseS o).1, (parseS o).2.1, (parseS o).2.2.1, true)
  else (⟨#[]⟩, ⟨#[]⟩, 0, ⟨#[]⟩, ⟨#[]⟩, ⟨#[]⟩, ⟨#[]⟩, 0, false)
theorem parts_ev (m u o : ByteArray) (mode : Int) (creds : Bool) (l : List Hd) (cls tmo grp sig : Int) (h : RS m u o l) : Ev (fun k => ask_parts.f k m u o mode creds l cls tmo grp sig) (partS m u o mode l cls tmo grp sig) := by
  unfold ask_parts.f partS
  refine Ev.bind (achk_ev m u o mode creds l cls tmo grp sig h) ?_
  obtain ⟨h1, h2, h3, h4⟩ := h
  exact evIte (fun _ => Ev.bind (tparse_ev u (by omega)) (Ev.bind (parse_ev o (by omega)) (Ev.now _))) fun _ => Ev.now _
theorem partS_ok {m u o : ByteArray} {mode : Int} {l : List Hd} {cls tmo grp sig : Int} (h : askS m u o mode l cls tmo grp sig = 0) : partS m u o mode l cls tmo grp sig = ((tparseS u).1, (tparseS u).2.1, (tparseS u).2.2.1, (tparseS u).2.2.2.1, (tparseS u).2.2.2.2.1, (parseS o).1, (parseS o).2.1, (parseS o).2.2.1, true) := if_pos h
theorem partS_not {m u o : ByteArray} {mode : Int} {l : List Hd} {cls tmo grp sig : Int} (h : ¬ askS m u o mode l cls tmo grp sig = 0) : partS m u o mode l cls tmo grp sig = (⟨#[]⟩, ⟨#[]⟩, 0, ⟨#[]⟩, ⟨#[]⟩, ⟨#[]⟩, ⟨#[]⟩, 0, false) := if_neg h
abbrev NT : Type := ByteArray × ByteArray × ByteArray × Int × Bool × List Hd × Int × Int × Int × Int
def noR : NT := (⟨#[]⟩, ⟨#[]⟩, ⟨#[]⟩, 0, false, [], 0, 0, 0, 0)
def toldU (u : ByteArray) : ByteArray := tShowS (tparseS u).1 (tparseS u).2.1 (tparseS u).2.2.1 (tparseS u).2.2.2.1 (tparseS u).2.2.2.2.1
def toldO (o : ByteArray) : ByteArray := showS (parseS o).1 (parseS o).2.1 (parseS o).2.2.1
def normR (m u o : ByteArray) (mode : Int) (creds : Bool) (l : List Hd) (cls tmo grp sig : Int) : NT :=
  if askS m u o mode l cls tmo grp sig = 0 then (mnormS m, toldU u, toldO o, mode, creds, normS l, cls, tmo, grp, sig) else noR
theorem anorm_ev (m u o : ByteArray) (mode : Int) (creds : Bool) (l : List Hd) (cls tmo grp sig : Int) (h : RS m u o l) : Ev (fun k => ask_Norm.f k m u o mode creds l cls tmo grp sig) (normR m u o mode creds l cls tmo grp sig) := by
  unfold ask_Norm.f normR
  refine Ev.bind (parts_ev m u o mode creds l cls tmo grp sig h) ?_
  obtain ⟨h1, h2, h3, h4⟩ := h
  by_cases e : askS m u o mode l cls tmo grp sig = 0
  · rw [partS_ok e, if_pos e]
    have z := tparse_sizes u (by omega)
    have y := parse_sizes o (by omega)
    exact evPos rfl (Ev.bind (mnorm_ev m h1) (Ev.bind (tShow_ev _ _ _ _ _ z.1 z.2.1 z.2.2.1 z.2.2.2) (Ev.bind (show_ev _ _ _ y.1 y.2) (Ev.bind (norm_ev l h4) (Ev.now _)))))
  · rw [partS_not e, if_neg e]
    exact evNeg (by decide) (Ev.now _)
def crossS (m u o : ByteArray) (mode : Int) (l : List Hd) (cls tmo grp sig : Int) : Bool := if askS m u o mode l cls tmo grp sig = 0 then unlikeS (tparseS u) (parseS o) else false
theorem cross_ev (m u o : ByteArray) (mode : Int) (creds : Bool) (l : List Hd) (cls tmo grp sig : Int) (h : RS m u o l) : Ev (fun k => ask_Cross.f k m u o mode creds l cls tmo grp sig) (crossS m u o mode l cls tmo grp sig) := by
  unfold ask_Cross.f crossS
  refine Ev.bind (parts_ev m u o mode creds l cls tmo grp sig h) ?_
  by_cases e : askS m u o mode l cls tmo grp sig = 0
  · rw [partS_ok e, if_pos e]
    exact evPos rfl (Ev.now _)
  · rw [partS_not e, if_neg e]
    exact evNeg (by decide) (Ev.now _)
def namesR (m u o : ByteArray) (mode : Int) (l : List Hd) (cls tmo grp sig : Int) : List ByteArray := if askS m u o mode l cls tmo grp sig = 0 then snames l else []
theorem anames_ev (m u o : ByteArray) (mode : Int) (creds : Bool) (l : List Hd) (cls tmo grp sig : Int) (h : RS m u o l) : Ev (fun k => ask_Names.f k m u o mode creds l cls tmo grp sig) (namesR m u o mode l cls tmo grp sig) := by
  unfold ask_Names.f namesR
  refine Ev.bind (achk_ev m u o mode creds l cls tmo grp sig h) ?_
  exact evIte (fun _ => Ev.bind (snames_ev l h.2.2.2) (Ev.now _)) fun _ => Ev.now _
def needsS (m u o : ByteArray) (mode : Int) (l : List Hd) (cls tmo grp sig : Int) : Bool := if mode = 3 then (if crossS m u o mode l cls tmo grp sig = true then !plainS m l else false) else false
theorem needs_ev (m u o : ByteArray) (mode : Int) (creds : Bool) (l : List Hd) (cls tmo grp sig : Int) (h : RS m u o l) : Ev (fun k => ask_Needs.f k m u o mode creds l cls tmo grp sig) (needsS m u o mode l cls tmo grp sig) := by
  unfold ask_Needs.f needsS
  exact evIte (fun _ => Ev.bind (cross_ev m u o mode creds l cls tmo grp sig h) (evIte (fun _ => Ev.bind (plain_ev m u o mode creds l cls tmo grp sig h) (Ev.now _)) fun _ => Ev.now _)) fun _ => Ev.now _
def cellR (m u o : ByteArray) (mode : Int) (creds : Bool) (l : List Hd) (cls tmo grp sig : Int) : ByteArray × ByteArray × Bool :=
  ((normR m u o mode creds l cls tmo grp sig).2.2.1, (normR m u o mode creds l cls tmo grp sig).2.1, (normR m u o mode creds l cls tmo grp sig).2.2.2.2.1)
theorem acell_ev (m u o : ByteArray) (mode : Int) (creds : Bool) (l : List Hd) (cls tmo grp sig : Int) (h : RS m u o l) : Ev (fun k => ask_Cell.f k m u o mode creds l cls tmo grp sig) (cellR m u o mode creds l cls tmo grp sig) := by
  unfold ask_Cell.f cellR
  exact Ev.bind (anorm_ev m u o mode creds l cls tmo grp sig h) (Ev.now _)
def commaS (l : List ByteArray) : ByteArray := joinB l (⟨#[44]⟩ : ByteArray)
theorem join_le (sep : Bs) (n : Nat) : ∀ L : List Bs, (∀ x ∈ L, x.length ≤ n) → (Lib.join L sep).length ≤ L.length * (n + sep.length)
  | [], _ => by simp [Lib.join]
  | [x], h => by
    have := h x (by simp)
    simp [Lib.join]
    omega
  | x :: y :: r, h => by
    have h1 := h x (by simp)
    have h2 := join_le sep n (y :: r) (fun z hz => h z (by simp [hz]))
    have e : (Lib.join (x :: y :: r) sep).length = x.length + sep.length + (Lib.join (y :: r) sep).length := by simp [Lib.join]; omega
    rw [e, List.length_cons, Nat.succ_mul]
    omega
theorem snames_size (l : List Hd) (hl : HOk l) : (snames l).length ≤ 1000 ∧ ∀ x ∈ snames l, x.size ≤ 1000000 := by
  refine ⟨Nat.le_trans (snames_length l) hl.1, fun x hx => ?_⟩
  have h1 := snames_sub l x hx
  rw [namesS_mem] at h1
  obtain ⟨h, hm, e⟩ := h1
  rw [← e, lowB_size]
  exact (hl.2 h hm).1
theorem comma_f (L : List ByteArray) (h : L.length ≤ 1000) (hx : ∀ x ∈ L, x.size ≤ 1000000) : strings_Join.f L (⟨#[44]⟩ : ByteArray) = some (commaS L) := by
  have h1 := join_le ([44] : List UInt8) 1000000 (L.map fun x => x.data.toList) (by
    intro x hm
    obtain ⟨y, hy, rfl⟩ := List.mem_map.1 hm
    have := hx y hy
    rw [size_len] at this
    exact this)
  rw [List.length_map] at h1
  have h2 : L.length * (1000000 + (([44] : List UInt8) : Bs).length) ≤ 1000 * 1000001 := Nat.mul_le_mul h (by decide)
  unfold strings_Join.f commaS
  rw [if_pos ⟨by omega, by show (Lib.join (L.map fun x => x.data.toList) ([44] : List UInt8)).length ≤ _; omega⟩]
theorem greatR_ev (m u o : ByteArray) (mode : Int) (creds : Bool) (l : List Hd) (cls tmo grp sig : Int) :
    ∃ b, Ev (fun k => lockkeeperlaw0_GreatReq.f k m u o mode creds l cls tmo grp sig) b ∧ (b = false → m.size ≤ 60 ∧ u.size ≤ 700 ∧ o.size ≤ 700 ∧ HSmall l) := by
  unfold lockkeeperlaw0_GreatReq.f
  by_cases h1 : (m.size : Int) > 60
  · exact ⟨true, evPos h1 (Ev.now _), fun h => by cases h⟩
  by_cases h2 : (u.size : Int) > 700
  · exact ⟨true, evNeg h1 (evPos h2 (Ev.now _)), fun h => by cases h⟩
  by_cases h3 : (o.size : Int) > 700
  · exact ⟨true, evNeg h1 (evNeg h2 (evPos h3 (Ev.now _))), fun h => by cases h⟩
  obtain ⟨b, hb, hB⟩ := great_ev l
  exact ⟨b, evNeg h1 (evNeg h2 (evNeg h3 (Ev.bind hb (Ev.now _)))), fun e => ⟨by omega, by omega, by omega, hB e⟩⟩
theorem small_ok {l : List Hd} (h : HSmall l) : HOk l := ⟨by have := h.1; omega, fun x hx => by have := h.2 x hx; omega⟩
theorem known_mem (s : ByteArray) : ∀ l : List ByteArray, knownGo s l = ⟨#[]⟩ ∨ knownGo s l ∈ l
  | [] => .inl rfl
  | m :: r => by
    unfold knownGo
    split
    · exact .inr (by simp)
    · rcases known_mem s r with h | h
      · exact .inl h
      · exact .inr (by simp [h])
theorem known_fix : ∀ m ∈ knowns, knownGo m knowns = m ∧ methS m = 0 ∧ m.size ≤ 7 ∧ m.toList ≠ [] := by decide +kernel
theorem mnorm_parts (s : ByteArray) : (knownGo s knowns = ⟨#[]⟩ ∧ mnormS s = s) ∨ (knownGo s knowns ∈ knowns ∧ mnormS s = knownGo s knowns) := by
  rcases known_mem s knowns with h | h
  · refine .inl ⟨h, ?_⟩
    unfold mnormS
    rw [h, if_pos (by rw [tl])]
  · refine .inr ⟨h, ?_⟩
    unfold mnormS
    rw [if_neg (known_fix _ h).2.2.2]
theorem known_norm (s : ByteArray) : knownGo (mnormS s) knowns = knownGo s knowns := by
  rcases mnorm_parts s with ⟨h, e⟩ | ⟨h, e⟩
  · rw [e]
  · rw [e, (known_fix _ h).1]
theorem safeM_norm (s : ByteArray) : safeM (mnormS s) = safeM s := by
  unfold safeM
  rw [known_norm]
theorem meth_norm (s : ByteArray) (h : methS s = 0) : methS (mnormS s) = 0 := by
  rcases mnorm_parts s with ⟨_, e⟩ | ⟨hm, e⟩
  · rw [e, h]
  · rw [e, (known_fix _ hm).2.1]
theorem mnorm_size (s : ByteArray) (h : s.size ≤ 1000) : (mnormS s).size ≤ 1000 := by
  rcases mnorm_parts s with ⟨_, e⟩ | ⟨hm, e⟩
  · rw [e]; exact h
  · rw [e]; have := (known_fix _ hm).2.2.1; omega
theorem ask_parts0 {m u o : ByteArray} {mode : Int} {l : List Hd} {cls tmo grp sig : Int} (h : askS m u o mode l cls tmo grp sig = 0) :
    (tparseS u).2.2.2.2.2 = 0 ∧ (parseS o).2.2.2 = 0 ∧ fieldS m mode l cls tmo grp sig = 0 ∧ modesS m u o mode l = 0 := by
  unfold askS at h
  split at h
  · rename_i h1
    split at h
    · rename_i h2
      split at h
      · rename_i h3
        exact ⟨h1, h2, h3, h⟩
      · rename_i h3; exact absurd h h3
    · rename_i h2; exact absurd h h2
  · rename_i h1; exact absurd h h1
theorem field_parts0 {m : ByteArray} {mode : Int} {l : List Hd} {cls tmo grp sig : Int} (h : fieldS m mode l cls tmo grp sig = 0) : methS m = 0 ∧ checkS l = 0 := by
  unfold fieldS at h
  split at h
  · rename_i h1
    split at h
    · split at h
      · rename_i h3; exact ⟨h1, h3⟩
      · rename_i h3; exact absurd h h3
    · exact absurd h (by decide)
  · rename_i h1; exact absurd h h1
theorem normR_ok {m : ByteArray} {u : ByteArray} {o : ByteArray} {mode : Int} {creds : Bool} {l : List Hd} {cls : Int} {tmo : Int} {grp : Int} {sig : Int} (h : askS m u o mode l cls tmo grp sig = 0) : normR m u o mode creds l cls tmo grp sig = (mnormS m, toldU u, toldO o, mode, creds, normS l, cls, tmo, grp, sig) := if_pos h
theorem tokc_all : ∀ n : Nat, n < 256 → isTok (UInt8.ofNat n) = true → n ≠ 44 := by decide +kernel
theorem tokc_ne (c : UInt8) (h : isTok c = true) : c ≠ 44 := by
  have := tokc_all c.toNat c.toNat_lt (by rwa [UInt8.ofNat_toNat])
  rintro rfl
  exact this rfl
theorem toks_text {x : ByteArray} (h : tokS x = true) : (44 : UInt8) ∉ x.data.toList ∧ x.data.toList ≠ [] := by
  unfold tokS at h
  rw [Bool.and_eq_true, List.all_eq_true] at h
  exact ⟨fun hm => tokc_ne 44 (h.1 44 hm) rfl, by simpa using h.2⟩
theorem toks_len (L : List Hd) (n : ByteArray) (hL : HT L) : (toksS L n).1.length ≤ 9223372036854775806 := by
  have h1 := hL.get n
  have h2 := splitS_length (getS L n).1
  unfold toksS
  split
  · exact by dsimp only; omega
  · simp
theorem read_len (L : List Hd) (hL : HT L) : (readS L).1.length ≤ 9223372036854775806 ∧ (readS L).2.1.length ≤ 9223372036854775806 := by
  have h1 := toks_len L sMeths hL
  have h2 := toks_len L sHeads hL
  unfold readS
  split
  · split
    · exact ⟨h1, by simpa using h2⟩
    · exact ⟨by simp, by simp⟩
  · exact ⟨by simp, by simp⟩
def noA (e : Int) : RT := ([], [], 0, e)
def lastJ (m : ByteArray) (creds : Bool) (names : List ByteArray) (a : RT) : RT :=
  if a.2.2.2 = 0 then (if hasS a.1 m creds = true then (if names.all (fun n => covS a.2.1 n creds) = true then (a.1, a.2.1, a.2.2.1, 0) else noA 6) else noA 5) else noA a.2.2.2
def statS (b : Bool) (m : ByteArray) (creds : Bool) (names : List ByteArray) (L : List Hd) : RT := if b = true then noA 14 else lastJ m creds names (readS L)
def judgeS (m u o : ByteArray) (mode : Int) (creds : Bool) (l : List Hd) (cls tmo grp sig : Int) (status : Int) (L : List Hd) : RT :=
  if needsS m u o mode l cls tmo grp sig = true then
    (if corsS (toldO o) creds L = 0 then (if status < 200 then statS true (mnormS m) creds (snames l) L else statS (decide (status ≥ 300)) (mnormS m) creds (snames l) L) else noA (corsS (toldO o) creds L))
  else noA 2
theorem needs_ask {m u o : ByteArray} {mode : Int} {l : List Hd} {cls tmo grp sig : Int} (h : needsS m u o mode l cls tmo grp sig = true) : askS m u o mode l cls tmo grp sig = 0 := by
  unfold needsS at h
  split at h
  · split at h
    · rename_i h2
      unfold crossS at h2
      split at h2
      · assumption
      · cases h2
    · cases h
  · cases h
theorem judge_l0 (names : List ByteArray) (hn : names.length ≤ 1000000) (hs : ∀ x ∈ names, x.size ≤ 1000000) (m u o : ByteArray) (mode : Int) (creds : Bool) (l : List Hd) (cls tmo grp sig : Int) (M H : List ByteArray) (age : Int) (hH : H.length ≤ 9223372036854775806) :
    ∀ n i, i + n = names.length → Ev (fun k => flight_Judge.l0 k names (names.length : Int) (i : Int) m u o mode creds l cls tmo grp sig M H age) (if (names.drop i).all (fun n => covS H n creds) = true then (M, H, age, 0) else noA 6) := by
  intro n
  induction n with
  | zero =>
    intro i hi
    rw [List.drop_of_length_le (by omega)]
    refine evSucc ?_
    simp only [flight_Judge.l0]
    exact evNeg (by omega) (Ev.now _)
  | succ n ih =>
    intro i hi
    have h1 : i < names.length := by omega
    have e2 : wrap64 ((i : Int) + 1) = ((i + 1 : Nat) : Int) := by unfold wrap64; omega
    have hz := hs _ (List.getElem_mem h1)
    rw [List.drop_eq_getElem_cons h1, List.all_cons]
    refine evSucc ?_
    simp only [flight_Judge.l0, e2, rdOf_get names i h1]
    refine evPos (by omega) (evPos (by omega) (evPos (by omega) (evBind (cov_f M H age _ creds (by omega) (by omega)) ?_)))
    cases hc : covS H names[i] creds with
    | true => exact evPos rfl (by simpa using ih (i + 1) (by omega))
    | false => exact evNeg (by decide) (Ev.now _)
theorem judge_j0 (m u o : ByteArray) (mode : Int) (creds : Bool) (l : List Hd) (cls tmo grp sig : Int) (L : List Hd) (b : Bool) (h : RS m u o l) (hL : HT L) (e : askS m u o mode l cls tmo grp sig = 0) (m' u' o' : ByteArray) (mode' : Int) (l' : List Hd) (cls' tmo' grp' sig' : Int) (hm' : m'.size ≤ 1000) :
    Ev (fun k => flight_Judge.j0 k L b m u o mode creds l cls tmo grp sig m' u' o' mode' creds l' cls' tmo' grp' sig') (statS b m' creds (snames l) L) := by
  have hn : namesR m u o mode l cls tmo grp sig = snames l := if_pos e
  have hz := snames_size l h.2.2.2
  have hr := read_len L hL
  refine evSucc ?_
  simp only [flight_Judge.j0]
  unfold statS lastJ
  refine evIte (fun _ => Ev.now _) fun _ => Ev.bind (read_ev L hL) (evIte (fun _ => Ev.bind (has_ev _ _ _ _ _ (by have := hr.1; omega) (by omega)) (evIte (fun _ => Ev.bind (evEq (anames_ev m u o mode creds l cls tmo grp sig h) hn) ?_) fun _ => Ev.now _)) fun _ => Ev.now _)
  have := judge_l0 (snames l) (by omega) hz.2 m' u' o' mode' creds l' cls' tmo' grp' sig' (readS L).1 (readS L).2.1 (readS L).2.2.1 hr.2 (snames l).length 0 (by omega)
  simpa using this
theorem judge_ev (m u o : ByteArray) (mode : Int) (creds : Bool) (l : List Hd) (cls tmo grp sig : Int) (status : Int) (L : List Hd) (h : RS m u o l) (hL : HT L) :
    Ev (fun k => flight_Judge.f k m u o mode creds l cls tmo grp sig status L) (judgeS m u o mode creds l cls tmo grp sig status L) := by
  unfold flight_Judge.f judgeS
  refine Ev.bind (needs_ev m u o mode creds l cls tmo grp sig h) (evIte (fun hn => ?_) fun _ => Ev.now _)
  have e := needs_ask hn
  have hm := mnorm_size m h.1
  refine Ev.bind (evEq (anorm_ev m u o mode creds l cls tmo grp sig h) (normR_ok e)) ?_
  dsimp only
  refine Ev.bind (cors_ev _ _ L hL.ok) (evIte (fun _ => evIte (fun _ => ?_) fun _ => ?_) fun _ => Ev.now _)
  · exact judge_j0 m u o mode creds l cls tmo grp sig L true h hL e _ _ _ _ _ _ _ _ _ hm
  · exact judge_j0 m u o mode creds l cls tmo grp sig L _ h hL e _ _ _ _ _ _ _ _ _ hm
def sAccept : ByteArray := (⟨#[97, 99, 99, 101, 112, 116]⟩ : ByteArray)
def sAny : ByteArray := (⟨#[42, 47, 42]⟩ : ByteArray)
def sReqM : ByteArray := (⟨#[97, 99, 99, 101, 115, 115, 45, 99, 111, 110, 116, 114, 111, 108, 45, 114, 101, 113, 117, 101, 115, 116, 45, 109, 101, 116, 104, 111, 100]⟩ : ByteArray)
def sReqH : ByteArray := (⟨#[97, 99, 99, 101, 115, 115, 45, 99, 111, 110, 116, 114, 111, 108, 45, 114, 101, 113, 117, 101, 115, 116, 45, 104, 101, 97, 100, 101, 114, 115]⟩ : ByteArray)
def sOrig : ByteArray := (⟨#[111, 114, 105, 103, 105, 110]⟩ : ByteArray)
def sOpts : ByteArray := (⟨#[79, 80, 84, 73, 79, 78, 83]⟩ : ByteArray)
def namesH (names : List ByteArray) : List Hd := if names.length > 0 then [⟨sReqH, commaS names⟩] else []
def buildH (M O : ByteArray) (names : List ByteArray) : List Hd := [(⟨sAccept, sAny⟩ : Hd), ⟨sReqM, M⟩] ++ namesH names ++ [⟨sOrig, O⟩]
def buildR (m u o : ByteArray) (mode : Int) (l : List Hd) (cls tmo grp sig : Int) : NT :=
  if needsS m u o mode l cls tmo grp sig = true then (sOpts, toldU u, toldO o, 3, false, buildH (mnormS m) (toldO o) (snames l), cls, tmo, grp, sig) else noR
theorem build_ev (m u o : ByteArray) (mode : Int) (creds : Bool) (l : List Hd) (cls tmo grp sig : Int) (h : RS m u o l) : Ev (fun k => flight_Build.f k m u o mode creds l cls tmo grp sig) (buildR m u o mode l cls tmo grp sig) := by
  unfold flight_Build.f buildR
  refine Ev.bind (needs_ev m u o mode creds l cls tmo grp sig h) (evIte (fun hn => ?_) fun _ => Ev.now _)
  have e := needs_ask hn
  have hz := snames_size l h.2.2.2
  refine Ev.bind (evEq (anorm_ev m u o mode creds l cls tmo grp sig h) (normR_ok e)) ?_
  dsimp only
  simp only [Option.bind_some]
  have hnm : namesR m u o mode l cls tmo grp sig = snames l := if_pos e
  refine Ev.bind (evEq (anames_ev m u o mode creds l cls tmo grp sig h) hnm) ?_
  unfold buildH namesH
  by_cases hp : (snames l).length > 0
  · rw [if_pos hp]
    refine evPos (by omega) (evBind (comma_f _ hz.1 hz.2) (evPos (by simp) (evPos (by simp) ?_)))
    exact Ev.now _
  · rw [if_neg hp]
    refine evNeg (by omega) (evPos (by simp) ?_)
    exact Ev.now _
def wPut : ByteArray := (⟨#[112, 117, 116]⟩ : ByteArray)
def wUrl : ByteArray := (⟨#[104, 116, 116, 112, 58, 47, 47, 98, 47, 120]⟩ : ByteArray)
def wOrg : ByteArray := (⟨#[104, 116, 116, 112, 58, 47, 47, 97]⟩ : ByteArray)
def wHds : List Hd := [(⟨(⟨#[88, 45, 66]⟩ : ByteArray), (⟨#[49]⟩ : ByteArray)⟩ : Hd), ⟨(⟨#[120, 45, 97]⟩ : ByteArray), (⟨#[50]⟩ : ByteArray)⟩]
theorem w_cross : crossS wPut wUrl wOrg 3 wHds 2 0 0 0 = true := by decide +kernel
theorem w_names : snames wHds = [(⟨#[120, 45, 97]⟩ : ByteArray), (⟨#[120, 45, 98]⟩ : ByteArray)] := by
  have e0 : ¬ (totalN wHds : Int) > 1024 := by decide +kernel
  have e1 : unsafeN wHds = [(⟨#[120, 45, 98]⟩ : ByteArray), (⟨#[120, 45, 97]⟩ : ByteArray)] := by decide +kernel
  unfold snames
  rw [if_neg e0, e1]
  refine lists_inj ?_
  rw [lists_rise]
  refine rises_eq (riseL_rises _) (by decide +kernel) fun x => ?_
  rw [riseL_mem]
  simp [lists, or_comm]
theorem w_needs : needsS wPut wUrl wOrg 3 wHds 2 0 0 0 = true := by
  unfold needsS
  rw [if_pos rfl, if_pos w_cross]
  decide +kernel
theorem w_rs : RS wPut wUrl wOrg wHds := ⟨by decide, by decide, by decide, small_ok ⟨by decide, by decide +kernel⟩⟩
theorem w_ht : HT [(⟨sFrom, (⟨#[42]⟩ : ByteArray)⟩ : Hd)] := ⟨by decide, by decide +kernel⟩
theorem w_j1 : (judgeS wPut wUrl wOrg 3 false wHds 2 0 0 0 404 [(⟨sFrom, (⟨#[42]⟩ : ByteArray)⟩ : Hd)]).2.2.2 = 14 := by
  have e : corsS (toldO wOrg) false [(⟨sFrom, (⟨#[42]⟩ : ByteArray)⟩ : Hd)] = 0 := by decide +kernel
  unfold judgeS
  rw [if_pos w_needs, if_pos e]
  decide +kernel
theorem w_j2 : (judgeS wPut wUrl wOrg 3 false wHds 2 0 0 0 200 []).2.2.2 = 15 := by
  have e : corsS (toldO wOrg) false [] = 15 := by decide +kernel
  unfold judgeS
  rw [if_pos w_needs, e]
  decide +kernel
theorem w_b : buildR wPut wUrl wOrg 3 wHds 2 0 0 0 = (sOpts, toldU wUrl, toldO wOrg, 3, false, buildH (mnormS wPut) (toldO wOrg) [(⟨#[120, 45, 97]⟩ : ByteArray), (⟨#[120, 45, 98]⟩ : ByteArray)], 2, 0, 0, 0) := by
  unfold buildR
  rw [if_pos w_needs, w_names]
theorem awake17_ev : Ev (fun k => lockkeeperlaw17_awake.f k) true := by
  unfold lockkeeperlaw17_awake.f
  refine evBind (x := (wPut, wUrl, wOrg, 3, false, wHds, 2, 0, 0, 0)) rfl ?_
  refine Ev.bind (judge_ev wPut wUrl wOrg 3 false wHds 2 0 0 0 404 _ w_rs w_ht) ?_
  refine evBind (x := (wPut, wUrl, wOrg, 3, false, wHds, 2, 0, 0, 0)) rfl ?_
  refine Ev.bind (judge_ev wPut wUrl wOrg 3 false wHds 2 0 0 0 200 [] w_rs ⟨by simp, by simp⟩) ?_
  refine evBind (x := (wPut, wUrl, wOrg, 3, false, wHds, 2, 0, 0, 0)) rfl ?_
  refine Ev.bind (evEq (build_ev wPut wUrl wOrg 3 false wHds 2 0 0 0 w_rs) w_b) ?_
  refine evPos w_j1 (evPos w_j2 (evPos (by decide +kernel) (evPos (by decide +kernel) (evPos (by decide +kernel) ?_))))
  exact evEq (Ev.now _) (by decide +kernel)
end Go.Proofs.YtfmajangcbgooaaGreatDoor.Pr
