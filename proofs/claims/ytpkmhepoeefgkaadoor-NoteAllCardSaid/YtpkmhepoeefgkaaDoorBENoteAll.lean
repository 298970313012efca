
/- Plain laws: what NoteAll leans on, in one text. -/
import Derived.Test.YtpkmhepoeefgkaaDoorG4
import Derived.Test.YtpkmhepoeefgkaaDoorG5
import Derived.Test.YtpkmhepoeefgkaaDoorG9
import Derived.Test.YtpkmhepoeefgkaaDoorG10
import Derived.Test.YtpkmhepoeefgkaaDoorPr7
import Derived.Test.YtpkmhepoeefgkaaDoorPr2
import Derived.Test.YtpkmhepoeefgkaaDoorPr3a
import Derived.Test.YtpkmhepoeefgkaaDoorPr4
import Derived.Test.YtpkmhepoeefgkaaDoorPr8
import Derived.Test.YtpkmhepoeefgkaaDoorPr9
import Derived.Test.YtpkmhepoeefgkaaDoorPr10
namespace Go.Proofs.YtpkmhepoeefgkaaDoor.Pr
open Go.RowKit Go.Proofs.YtpkmhepoeefgkaaDoorW.PrintWords Go.Proofs.YtpkmhepoeefgkaaDoorW.PrintLast
set_option linter.unusedVariables false
set_option linter.unusedSimpArgs false
abbrev Bs := List UInt8
theorem tl (s : ByteArray) : s.toList = s.data.toList := ByteArray.toList_eq s
theorem ba_ext {a b : ByteArray} (h : a.data.toList = b.data.toList) : a = b := by
  rw [← bsOf_of a, ← bsOf_of b, h]
theorem size_len (s : ByteArray) : s.size = s.data.toList.length := (data_length s).symm
theorem size_bsOf (l : Bs) : (bsOf l).size = l.length := by rw [size_len]; rfl
theorem extract_list (s : ByteArray) (a b : Nat) : (s.extract a b).data.toList = (s.data.toList.take b).drop a := by
  simp [List.drop_take]
theorem append_list (s t : ByteArray) : (s ++ t).data.toList = s.data.toList ++ t.data.toList := by simp
theorem bt_get (s : ByteArray) (i : Nat) (h : i < s.size) : bt s (i : Int) = ((s.data.toList.getD i 0).toNat : Int) := by
  have h' : i < s.data.toList.length := by rw [← size_len]; exact h
  unfold bt
  rw [dif_pos (by simpa using h), List.getD_eq_getElem?_getD, List.getElem?_eq_getElem h']
  simp
  rfl
def longS : Int → List ByteArray → Bool
  | _, [] => false
  | n, s :: r => if (s.size : Int) ≥ n then true else longS (n - s.size - 1) r
theorem long_l0 (r : List ByteArray) : ∀ (p : List ByteArray) (n : Int), 0 ≤ n → n ≤ 4611686018427387904 → (p ++ r).length ≤ 9223372036854775806 → Ev (fun k => lockkeeperlaw0_Long.l0 k n (p ++ r) (p.length : Int)) (longS n r) := by
  induction r with
  | nil =>
    intro p n _ _ _
    refine Ev.step (f := fun _ => some false) (fun k => ?_) (Ev.now _)
    simp only [lockkeeperlaw0_Long.l0]
    rw [if_neg (by simp)]
  | cons s r ih =>
    intro p n h0 hn hl
    have hr : rdOf ByteArray.empty (p ++ s :: r) (p.length : Int) = s := by simp [rdOf, List.getD_eq_getElem?_getD]
    have hlen : (p ++ s :: r).length = p.length + (r.length + 1) := by simp
    by_cases h : (s.size : Int) ≥ n
    · refine Ev.step (f := fun _ => some true) (fun k => ?_) (by rw [longS, if_pos h]; exact Ev.now _)
      simp only [lockkeeperlaw0_Long.l0]
      rw [if_pos (by omega), if_pos (by omega), hr, if_pos h]
    · refine Ev.step (f := fun k => lockkeeperlaw0_Long.l0 k (n - s.size - 1) ((p ++ [s]) ++ r) ((p ++ [s]).length : Int)) (fun k => ?_) ?_
      · simp only [lockkeeperlaw0_Long.l0]
        rw [if_pos (by omega), if_pos (by omega), hr, if_neg h]
        have e1 : wrap64 (wrap64 (n - (s.size : Int)) - 1) = n - s.size - 1 := by unfold wrap64; omega
        have e2 : wrap64 ((p.length : Int) + 1) = ((p ++ [s]).length : Int) := by simp; unfold wrap64; omega
        rw [e1, e2]
        simp
      · rw [longS, if_neg h]
        exact ih (p ++ [s]) _ (by omega) (by omega) (by simpa using hl)
theorem long_ev (n : Int) (l : List ByteArray) (h0 : 0 ≤ n) (hn : n ≤ 4611686018427387904) (hl : l.length ≤ 9223372036854775806) : Ev (fun k => lockkeeperlaw0_Long.f k n l) (longS n l) := by
  have := long_l0 l [] n h0 hn (by simpa using hl)
  simpa [lockkeeperlaw0_Long.f] using this
theorem longS_size : ∀ (l : List ByteArray) (n : Int), longS n l = false → ∀ s ∈ l, (s.size : Int) < n := by
  intro l
  induction l with
  | nil => intro n _ s hs; cases hs
  | cons a r ih =>
    intro n h s hs
    rw [longS] at h
    by_cases ha : (a.size : Int) ≥ n
    · rw [if_pos ha] at h; cases h
    · rw [if_neg ha] at h
      rcases List.mem_cons.1 hs with rfl | hs
      · omega
      · have := ih _ h s hs
        omega
theorem evSucc {α : Type} {g : Nat → Option α} {r : α} (h : Ev (fun k => g (k + 1)) r) : Ev g r := Ev.step (fun _ => rfl) h
theorem evEq {α : Type} {g : Nat → Option α} {r r' : α} (h : Ev g r) (e : r = r') : Ev g r' := e ▸ h
theorem evPos {α : Type} {c : Prop} [Decidable c] {g h : Nat → Option α} {r : α} (hc : c) (hg : Ev g r) : Ev (fun k => if c then g k else h k) r := by
  simp only [if_pos hc]
  exact hg
theorem evNeg {α : Type} {c : Prop} [Decidable c] {g h : Nat → Option α} {r : α} (hc : ¬ c) (hg : Ev h r) : Ev (fun k => if c then g k else h k) r := by
  simp only [if_neg hc]
  exact hg
theorem evBind {α β : Type} {a : Option α} {x : α} {f : Nat → α → Option β} {r : β} (h : a = some x) (k : Ev (fun n => f n x) r) : Ev (fun n => a.bind (f n)) r := by
  subst h
  exact k
theorem evIte {α : Type} {c : Prop} [Decidable c] {g h : Nat → Option α} {r s : α} (hp : c → Ev g r) (hn : ¬ c → Ev h s) : Ev (fun k => if c then g k else h k) (if c then r else s) := by
  by_cases hc : c
  · rw [if_pos hc]; exact evPos hc (hp hc)
  · rw [if_neg hc]; exact evNeg hc (hn hc)
theorem rdOf_get (l : List ByteArray) (i : Nat) (h : i < l.length) : rdOf ByteArray.empty l (i : Int) = l[i] := by
  simp [rdOf, List.getD_eq_getElem?_getD, h]
def isDig (c : UInt8) : Bool := decide ((c.toNat : Int) ≥ 48) && decide ((c.toNat : Int) ≤ 57)
theorem digit_f (c : UInt8) : octet_digit.f (c.toNat : Int) = some (isDig c) := by
  unfold octet_digit.f isDig
  by_cases h : (c.toNat : Int) ≥ 48
  · rw [if_pos h]; simp only [h, decide_true, Bool.true_and]
  · rw [if_neg h]; simp only [h, decide_false, Bool.false_and]
def digStep (n : Int) (c : UInt8) : Int :=
  if n > (18446744073709551615 - (((c.toNat : Int) - 48) % 256)) / 10 then 18446744073709551615 else IntKind.u64.wrap ((IntKind.u64.wrap (n * 10)) + (((c.toNat : Int) - 48) % 256))
def digGo : Int → Bs → Option Int
  | n, [] => some n
  | n, c :: r => if isDig c = true then digGo (digStep n c) r else none
def digS (s : ByteArray) : Int × Bool := match digGo 0 s.data.toList with
  | some n => (n, s.data.toList != [])
  | none => (0, false)
theorem bt_mid (s : ByteArray) (p : Bs) (c : UInt8) (r : Bs) (h : s.data.toList = p ++ c :: r) : bt s (p.length : Int) = (c.toNat : Int) := by
  rw [bt_get s p.length (by rw [size_len, h]; simp), h]
  simp [List.getD_eq_getElem?_getD]
theorem digits_l0 (s : ByteArray) (hs : s.size ≤ 4611686018427387904) (r : Bs) : ∀ (p : Bs) (n : Int), s.data.toList = p ++ r → 
    Ev (fun k => octet_Digits.l0 k s n (s.size : Int) (p.length : Int)) (match digGo n r with | some n => (n, s.data.toList != []) | none => (0, false)) := by
  induction r with
  | nil =>
    intro p n hp
    have hl : s.size = p.length := by rw [size_len, hp]; simp
    refine evSucc ?_
    simp only [octet_Digits.l0]
    refine evNeg (by omega) (evEq (Ev.now _) ?_)
    rw [tl]
    rfl
  | cons c r ih =>
    intro p n hp
    have hl : s.size = p.length + (r.length + 1) := by rw [size_len, hp]; simp
    have hb := bt_mid s p c r hp
    have e2 : wrap64 ((p.length : Int) + 1) = ((p ++ [c]).length : Int) := by simp; unfold wrap64; omega
    refine evSucc ?_
    simp only [octet_Digits.l0, hb, e2]
    refine evPos (by omega) (evPos (by omega) (evPos (by omega) (evBind (digit_f c) ?_)))
    rw [digGo]
    cases hd : isDig c with
    | true =>
      refine evPos rfl ?_
      simp only [if_true]
      by_cases hg : n > (18446744073709551615 - (((c.toNat : Int) - 48) % 256)) / 10
      · refine evPos hg ?_
        have := ih (p ++ [c]) (digStep n c) (by simpa using hp)
        rw [show digStep n c = 18446744073709551615 by unfold digStep; rw [if_pos hg]] at this ⊢
        exact this
      · refine evNeg hg ?_
        have := ih (p ++ [c]) (digStep n c) (by simpa using hp)
        rw [show digStep n c = IntKind.u64.wrap ((IntKind.u64.wrap (n * 10)) + (((c.toNat : Int) - 48) % 256)) by unfold digStep; rw [if_neg hg]] at this ⊢
        exact this
    | false =>
      refine evNeg (by decide) (evEq (Ev.now _) ?_)
      simp
theorem digits_ev (s : ByteArray) (hs : s.size ≤ 4611686018427387904) : Ev (fun k => octet_Digits.f k s) (digS s) := by
  have := digits_l0 s hs s.data.toList [] 0 rfl
  simpa [octet_Digits.f, digS] using this
theorem indexByte_at (p r : Bs) (c : UInt8) (h : c ∉ p) : Lib.indexByte (p ++ c :: r) c = (p.length : Int) := by
  induction p with
  | nil => simp [Lib.indexByte]
  | cons b p ih =>
    have hb : (b == c) = false := by
      simp only [beq_eq_false_iff_ne]
      intro e
      exact h (by simp [e])
    have := ih (fun hc => h (by simp [hc]))
    rw [List.cons_append, Lib.indexByte, hb, this]
    have h2 : (((p.length : Int)) == -1) = false := by
      simp only [beq_eq_false_iff_ne]
      omega
    rw [h2]
    simp
theorem indexByte_not (p : Bs) (c : UInt8) (h : c ∉ p) : Lib.indexByte p c = -1 := by
  induction p with
  | nil => rfl
  | cons b p ih =>
    have hb : (b == c) = false := by
      simp only [beq_eq_false_iff_ne]
      intro e
      exact h (by simp [e])
    have := ih (fun hc => h (by simp [hc]))
    rw [Lib.indexByte, hb, this]
    simp
def numL (n : Nat) : Bs := if h : n > 9 then numL (n / 10) ++ [UInt8.ofNat (48 + n % 10)] else [UInt8.ofNat (48 + n)]
termination_by n
decreasing_by omega
theorem numL_great {n : Nat} (h : n > 9) : numL n = numL (n / 10) ++ [UInt8.ofNat (48 + n % 10)] := by
  rw [numL, dif_pos h]
theorem numL_small {n : Nat} (h : ¬ n > 9) : numL n = [UInt8.ofNat (48 + n)] := by
  rw [numL, dif_neg h]
theorem numL_length : ∀ (k n : Nat), n < 10 ^ (k + 1) → (numL n).length ≤ k + 1 := by
  intro k
  induction k with
  | zero =>
    intro n h
    rw [numL_small (by omega)]
    simp
  | succ k ih =>
    intro n h
    by_cases h9 : n > 9
    · rw [numL_great h9]
      have := ih (n / 10) (by rw [Nat.pow_succ] at h; omega)
      simp
      omega
    · rw [numL_small h9]
      simp
theorem numL_ne (n : Nat) : numL n ≠ [] := by
  by_cases h9 : n > 9
  · rw [numL_great h9]; simp
  · rw [numL_small h9]; simp
def isNum (c : UInt8) : Prop := 48 ≤ c.toNat ∧ c.toNat ≤ 57
theorem num_char (d : Nat) (h : d < 10) : (UInt8.ofNat (48 + d)).toNat = 48 + d := by
  rw [UInt8.toNat_ofNat']
  omega
theorem numL_chars (n : Nat) : ∀ c ∈ numL n, isNum c := by
  induction n using Nat.strongRecOn with
  | _ n ih =>
    intro c hc
    by_cases h9 : n > 9
    · rw [numL_great h9] at hc
      rcases List.mem_append.1 hc with hc | hc
      · exact ih (n / 10) (by omega) c hc
      · rw [List.mem_singleton.1 hc]
        unfold isNum
        rw [num_char _ (by omega)]
        omega
    · rw [numL_small h9] at hc
      rw [List.mem_singleton.1 hc]
      unfold isNum
      rw [num_char _ (by omega)]
      omega
theorem ten_piece (d : Nat) (h : d < 10) : ((⟨#[48, 49, 50, 51, 52, 53, 54, 55, 56, 57]⟩ : ByteArray)).extract d (d + 1) = bsOf [UInt8.ofNat (48 + d)] := by
  have : ∀ e : Fin 10, (((⟨#[48, 49, 50, 51, 52, 53, 54, 55, 56, 57]⟩ : ByteArray)).extract e.val (e.val + 1)).data.toList = [UInt8.ofNat (48 + e.val)] := by decide +kernel
  exact ba_ext (this ⟨d, h⟩)
theorem u64_wrap (n : Nat) (h : n < 18446744073709551616) : IntKind.u64.wrap (n : Int) = n := by
  rw [show IntKind.u64.wrap (n : Int) = (n : Int) % 18446744073709551616 by simp [IntKind.wrap, IntKind.bits, IntKind.signed]]
  omega
theorem num_l0 (n : Nat) : ∀ x : ByteArray, n < 18446744073709551616 → x.size + (numL n).length ≤ 9223372036854775807 → Ev (fun k => lockkeeperref1_Num.l0 k (n : Int) x) (bsOf (numL n ++ x.data.toList)) := by
  induction n using Nat.strongRecOn with
  | _ n ih =>
    intro x hn hx
    have piece : ∀ d : Nat, d < 10 → ((⟨#[48, 49, 50, 51, 52, 53, 54, 55, 56, 57]⟩ : ByteArray)).extract ((d : Int)).toNat (IntKind.u64.wrap ((d : Int) + 1)).toNat = bsOf [UInt8.ofNat (48 + d)] := by
      intro d hd
      rw [show ((d : Int) + 1) = ((d + 1 : Nat) : Int) by omega, u64_wrap _ (by omega), Int.toNat_natCast, Int.toNat_natCast]
      exact ten_piece d hd
    have psz : ∀ d : Nat, (bsOf [UInt8.ofNat (48 + d)]).size = 1 := fun d => rfl
    have pw : ∀ d : Nat, d < 10 → IntKind.u64.wrap ((d : Int) + 1) = ((d + 1 : Nat) : Int) := by
      intro d hd
      rw [show ((d : Int) + 1) = ((d + 1 : Nat) : Int) by omega, u64_wrap _ (by omega)]
    refine evSucc ?_
    simp only [lockkeeperref1_Num.l0]
    by_cases h9 : n > 9
    · have e1 : Int.tmod (n : Int) 10 = ((n % 10 : Nat) : Int) := by rw [Int.tmod_eq_emod_of_nonneg (by omega)]; omega
      have e2 : IntKind.u64.wrap (Int.tdiv (n : Int) 10) = ((n / 10 : Nat) : Int) := by
        rw [show Int.tdiv (n : Int) 10 = ((n / 10 : Nat) : Int) by rw [Int.tdiv_eq_ediv_of_nonneg (by omega)]; omega, u64_wrap _ (by omega)]
      rw [e1, e2, piece (n % 10) (by omega), psz, pw _ (by omega)]
      have hl1 : (numL n).length ≥ 1 := List.length_pos_iff.2 (numL_ne n)
      refine evPos (by omega) (evPos (by omega) (evPos (by omega) (evPos (by omega) (evPos (by omega) ?_))))
      have hsz : (bsOf [UInt8.ofNat (48 + n % 10)] ++ x).size = 1 + x.size := by rw [ByteArray.size_append, psz]
      have hl : (numL n).length = (numL (n / 10)).length + 1 := by rw [numL_great h9]; simp
      have := ih (n / 10) (by omega) (bsOf [UInt8.ofNat (48 + n % 10)] ++ x) (by omega) (by omega)
      refine evEq this ?_
      rw [append_list, bsOf_data, numL_great h9]
      simp
    · have hl1 : (numL n).length ≥ 1 := List.length_pos_iff.2 (numL_ne n)
      rw [piece n (by omega), psz, pw _ (by omega)]
      refine evNeg (by omega) (evPos (by omega) (evPos (by omega) (evPos (by omega) (evPos (by omega) ?_))))
      refine evEq (Ev.now _) ?_
      apply ba_ext
      rw [append_list, bsOf_data, bsOf_data, numL_small h9]
theorem num_ev (n : Nat) (hn : n < 18446744073709551616) : Ev (fun k => lockkeeperref1_Num.f k (n : Int)) (bsOf (numL n)) := by
  have hl := numL_length 19 n (by omega)
  have := num_l0 n (⟨#[]⟩ : ByteArray) hn (by rw [show (⟨#[]⟩ : ByteArray).size = 0 from rfl]; omega)
  simpa [lockkeeperref1_Num.f] using this
theorem digGo_append (xs : Bs) (c : UInt8) : ∀ n, digGo n (xs ++ [c]) = (digGo n xs).bind fun v => if isDig c = true then some (digStep v c) else none := by
  induction xs with
  | nil =>
    intro n
    simp [digGo]
  | cons x xs ih =>
    intro n
    rw [List.cons_append, digGo, digGo]
    cases isDig x with
    | true => simpa using ih (digStep n x)
    | false => simp
theorem dig_num (d : Nat) (h : d < 10) : isDig (UInt8.ofNat (48 + d)) = true := by
  unfold isDig
  rw [num_char d h]
  simp
  omega
theorem digStep_num (v d : Nat) (h : d < 10) (hv : v * 10 + d < 18446744073709551616) : digStep (v : Int) (UInt8.ofNat (48 + d)) = ((v * 10 + d : Nat) : Int) := by
  unfold digStep
  rw [num_char d h]
  have e1 : ((((48 + d : Nat) : Int) - 48) % 256) = d := by omega
  rw [e1, if_neg (by omega), show ((v : Int) * 10) = ((v * 10 : Nat) : Int) by omega, u64_wrap _ (by omega), show (((v * 10 : Nat) : Int) + (d : Int)) = ((v * 10 + d : Nat) : Int) by omega, u64_wrap _ (by omega)]
theorem digGo_num (n : Nat) : n < 18446744073709551616 → digGo 0 (numL n) = some (n : Int) := by
  induction n using Nat.strongRecOn with
  | _ n ih =>
    intro hn
    by_cases h9 : n > 9
    · rw [numL_great h9, digGo_append, ih (n / 10) (by omega) (by omega)]
      simp only [Option.bind_some]
      rw [if_pos (dig_num _ (by omega)), digStep_num _ _ (by omega) (by omega)]
      congr 2
      omega
    · rw [numL_small h9, digGo, if_pos (dig_num n (by omega))]
      have := digStep_num 0 n (by omega) (by omega)
      rw [show ((0 : Nat) : Int) = 0 from rfl] at this
      rw [this, digGo]
      congr 2
      omega
theorem digGo_zeros (z : Nat) (l : Bs) : digGo 0 (List.replicate z 48 ++ l) = digGo 0 l := by
  induction z with
  | zero => rfl
  | succ z ih =>
    rw [List.replicate_succ, List.cons_append, digGo, if_pos (by decide), show digStep 0 48 = 0 by decide]
    exact ih
def digL (l : Bs) : Int × Bool := match digGo 0 l with
  | some n => (n, l != [])
  | none => (0, false)
theorem digS_L (s : ByteArray) : digS s = digL s.data.toList := rfl
theorem digL_num (z n : Nat) (hn : n < 18446744073709551616) : digL (List.replicate z 48 ++ numL n) = ((n : Int), true) := by
  unfold digL
  rw [digGo_zeros, digGo_num n hn]
  have : (List.replicate z 48 ++ numL n) ≠ [] := by simp [numL_ne n]
  simp [this, numL_ne n]
def splitC (c : UInt8) : Bs → List Bs
  | [] => [[]]
  | b :: l => if b = c then [] :: splitC c l else match splitC c l with
    | [] => [[b]]
    | x :: xs => (b :: x) :: xs
theorem sp_index_at (p r : Bs) (c : UInt8) (h : c ∉ p) : Lib.indexByte (p ++ c :: r) c = (p.length : Int) := by
  induction p with
  | nil => simp [Lib.indexByte]
  | cons b p ih =>
    have hb : (b == c) = false := by
      simp only [beq_eq_false_iff_ne]
      intro e
      exact h (by simp [e])
    have := ih (fun hc => h (by simp [hc]))
    rw [List.cons_append, Lib.indexByte, hb, this]
    have h2 : (((p.length : Int)) == -1) = false := by
      simp only [beq_eq_false_iff_ne]
      omega
    rw [h2]
    simp
theorem sp_index_not (p : Bs) (c : UInt8) (h : c ∉ p) : Lib.indexByte p c = -1 := by
  induction p with
  | nil => rfl
  | cons b p ih =>
    have hb : (b == c) = false := by
      simp only [beq_eq_false_iff_ne]
      intro e
      exact h (by simp [e])
    have := ih (fun hc => h (by simp [hc]))
    rw [Lib.indexByte, hb, this]
    simp
theorem splitC_not (c : UInt8) (l : Bs) (h : c ∉ l) : splitC c l = [l] := by
  induction l with
  | nil => rfl
  | cons b l ih =>
    have hb : ¬ b = c := fun e => h (by simp [e])
    rw [splitC, if_neg hb, ih (fun hc => h (by simp [hc]))]
theorem splitC_at (c : UInt8) (p r : Bs) (h : c ∉ p) : splitC c (p ++ c :: r) = p :: splitC c r := by
  induction p with
  | nil => rw [List.nil_append, splitC, if_pos rfl]
  | cons b p ih =>
    have hb : ¬ b = c := fun e => h (by simp [e])
    rw [List.cons_append, splitC, if_neg hb, ih (fun hc => h (by simp [hc]))]
theorem splitC_ne (c : UInt8) (l : Bs) : splitC c l ≠ [] := by
  cases l with
  | nil => simp [splitC]
  | cons b l =>
    rw [splitC]
    split
    · simp
    · split <;> simp
theorem splitL_data (c : UInt8) : ∀ (k : Nat) (s : ByteArray), Lib.countB s ⟨#[c]⟩ = k → (Lib.splitB ⟨#[c]⟩ 0 k s).map (·.data.toList) = splitC c s.data.toList := by
  intro k
  induction k with
  | zero =>
    intro s hk
    by_cases hm : c ∈ s.data.toList
    · obtain ⟨p, r, e, hp⟩ := List.eq_append_cons_of_mem hm
      have hix : Lib.indexB s ⟨#[c]⟩ = ((p.length : Nat) : Int) := by
        refine (Lib.index_one _ _).trans ?_
        rw [e]
        exact sp_index_at p r c hp
      have := Lib.countB_hit s ⟨#[c]⟩ p.length (Nat.le_refl 1) hix
      omega
    · rw [splitC_not c _ hm]
      rfl
  | succ k ih =>
    intro s hk
    by_cases hm : c ∈ s.data.toList
    · obtain ⟨p, r, e, hp⟩ := List.eq_append_cons_of_mem hm
      have hix : Lib.indexB s ⟨#[c]⟩ = ((p.length : Nat) : Int) := by
        refine (Lib.index_one _ _).trans ?_
        rw [e]
        exact sp_index_at p r c hp
      have hc := Lib.countB_hit s ⟨#[c]⟩ p.length (Nat.le_refl 1) hix
      rw [Lib.splitB_hit _ _ _ s p.length hix, List.map_cons, ih _ (by omega), e, splitC_at c p r hp]
      have e1 : (s.extract 0 (p.length + 0)).data.toList = p := by
        rw [extract_list, e]
        simp
      have e2 : (s.extract (p.length + (⟨#[c]⟩ : ByteArray).size) s.size).data.toList = r := by
        have hz : s.size = (p ++ c :: r).length := by rw [size_len, e]
        rw [show (⟨#[c]⟩ : ByteArray).size = 1 from rfl, extract_list, e, hz, List.take_length]
        simp
      rw [e1, e2]
    · have hix : Lib.indexB s ⟨#[c]⟩ = -1 := (Lib.index_one _ _).trans (sp_index_not _ c hm)
      rw [Lib.splitB_miss _ _ _ s hix, splitC_not c _ hm]
      rfl
theorem rdig_l0 (s : ByteArray) (hs : s.size ≤ 4611686018427387904) (r : Bs) : ∀ (p : Bs) (n : Int), s.data.toList = p ++ r →
    Ev (fun k => lockkeeperref1_Digits.l0 k s n (p.length : Int)) (match digGo n r with | some n => (n, s.data.toList != []) | none => (0, false)) := by
  induction r with
  | nil =>
    intro p n hp
    have hl : s.size = p.length := by rw [size_len, hp]; simp
    refine evSucc ?_
    simp only [lockkeeperref1_Digits.l0]
    refine evNeg (by omega) (evEq (Ev.now _) ?_)
    rw [digGo, hp, hl]
    cases p with
    | nil => rfl
    | cons c p => simp
  | cons c r ih =>
    intro p n hp
    have hl : s.size = p.length + (r.length + 1) := by rw [size_len, hp]; simp
    have hb := bt_mid s p c r hp
    have e2 : wrap64 ((p.length : Int) + 1) = ((p ++ [c]).length : Int) := by simp; unfold wrap64; omega
    have hj : ∀ x : Bool, x = !isDig c → Ev (fun k => lockkeeperref1_Digits.j1 k s n (p.length : Int) x) (match digGo n (c :: r) with | some n => (n, s.data.toList != []) | none => (0, false)) := by
      intro x hx
      refine evSucc ?_
      simp only [lockkeeperref1_Digits.j1, hb, e2]
      rw [digGo, hx]
      cases hd : isDig c with
      | false => exact evPos rfl (evEq (Ev.now _) (by simp))
      | true =>
        have := ih (p ++ [c]) (digStep n c) (by simpa using hp)
        simp only [if_true]
        refine evNeg (by decide) (evPos (by omega) (evPos (by omega) ?_))
        by_cases hg : n > (18446744073709551615 - (((c.toNat : Int) - 48) % 256)) / 10
        · refine evPos hg ?_
          rw [show digStep n c = 18446744073709551615 by unfold digStep; rw [if_pos hg]] at this ⊢
          exact this
        · refine evNeg hg ?_
          rw [show digStep n c = IntKind.u64.wrap ((IntKind.u64.wrap (n * 10)) + (((c.toNat : Int) - 48) % 256)) by unfold digStep; rw [if_neg hg]] at this ⊢
          rw [show (10 : Int) * n = n * 10 by omega]
          exact this
    refine evSucc ?_
    simp only [lockkeeperref1_Digits.l0, hb]
    refine evPos (by omega) (evPos (by omega) ?_)
    by_cases h : (c.toNat : Int) < 48
    · exact evPos h (hj true (by unfold isDig; simp; omega))
    · refine evNeg h (hj _ ?_)
      unfold isDig
      rw [show decide ((c.toNat : Int) ≥ 48) = true by simp; omega, Bool.true_and, Bool.eq_iff_iff]
      simp
theorem rdig_ev (s : ByteArray) (hs : s.size ≤ 4611686018427387904) : Ev (fun k => lockkeeperref1_Digits.f k s) (digS s) := by
  have := rdig_l0 s hs s.data.toList [] 0 rfl
  exact evEq this (by unfold digS; cases digGo 0 s.data.toList <;> rfl)
theorem cutS_at (s : ByteArray) (p r : Bs) (c : UInt8) (hs : s.data.toList = p ++ c :: r) (h : c ∉ p) : cutS s ⟨#[c]⟩ = (bsOf p, bsOf r, true) := by
  unfold cutS Lib.cut
  have e : Lib.index s.data.toList (⟨#[c]⟩ : ByteArray).data.toList = (p.length : Int) := by
    rw [hs]
    exact (Lib.index_one _ _).trans (indexByte_at p r c h)
  rw [e, if_pos (by omega), hs]
  simp
theorem cutS_not (s : ByteArray) (c : UInt8) (h : c ∉ s.data.toList) : cutS s ⟨#[c]⟩ = (s, ⟨#[]⟩, false) := by
  unfold cutS Lib.cut
  have e : Lib.index s.data.toList (⟨#[c]⟩ : ByteArray).data.toList = -1 := (Lib.index_one _ _).trans (indexByte_not _ c h)
  rw [e, if_neg (by omega)]
  simp only [bsOf_of]
  rfl
theorem wf_u64 {b : Int} (hb : (Lit.int .u64 b).wf = true) : 0 ≤ b ∧ b ≤ 18446744073709551615 := by
  have h : IntKind.u64.min ≤ b ∧ b ≤ IntKind.u64.max := by simpa [Lit.wf] using hb
  rw [show IntKind.u64.min = 0 from rfl, show IntKind.u64.max = 18446744073709551615 from rfl] at h
  exact h
theorem cut_f (s sep : ByteArray) (hs : s.size < 4294967281) : strings_Cut.f s sep = some (cutS s sep) := by
  unfold strings_Cut.f
  rw [if_pos hs]
theorem split1_f (s : ByteArray) (c : UInt8) (h : s.size < 4294967281) : strings_Split.f s ⟨#[c]⟩ = some (splitL s ⟨#[c]⟩) := by
  unfold strings_Split.f
  rw [if_pos ⟨h, rfl⟩]
theorem splitL_bs (s : ByteArray) (c : UInt8) : splitL s ⟨#[c]⟩ = (splitC c s.data.toList).map bsOf := by
  have := splitL_data c _ s rfl
  have h2 := congrArg (List.map bsOf) this
  rw [List.map_map] at h2
  rw [← h2]
  simp [splitL, Function.comp_def, bsOf_of]
theorem splitC_count (c : UInt8) (l : Bs) : (splitC c l).length ≤ l.length + 1 := by
  induction l with
  | nil => simp [splitC]
  | cons b l ih =>
    rw [splitC]
    split
    · simpa using ih
    · split
      · simp
      · rename_i x xs e; rw [e] at ih; simp at ih ⊢; omega
theorem splitC_mem (c : UInt8) (l : Bs) : ∀ y ∈ splitC c l, (∀ d ∈ y, d ∈ l ∧ d ≠ c) ∧ y.length ≤ l.length := by
  induction l with
  | nil => intro y hy; rw [splitC, List.mem_singleton] at hy; subst hy; exact ⟨by simp, by simp⟩
  | cons b l ih =>
    intro y hy
    rw [splitC] at hy
    by_cases hb : b = c
    · rw [if_pos hb] at hy
      rcases List.mem_cons.1 hy with rfl | hy
      · exact ⟨by simp, by simp⟩
      · have := ih y hy
        exact ⟨fun d hd => ⟨List.mem_cons_of_mem _ (this.1 d hd).1, (this.1 d hd).2⟩, by simp; omega⟩
    · rw [if_neg hb] at hy
      cases h : splitC c l with
      | nil => exact absurd h (splitC_ne c l)
      | cons x xs =>
        rw [h] at hy
        rcases List.mem_cons.1 hy with rfl | hy
        · have := ih x (by rw [h]; simp)
          refine ⟨fun d hd => ?_, by simp; omega⟩
          rcases List.mem_cons.1 hd with rfl | hd
          · exact ⟨by simp, hb⟩
          · exact ⟨List.mem_cons_of_mem _ (this.1 d hd).1, (this.1 d hd).2⟩
        · have := ih y (by rw [h]; simp [hy])
          exact ⟨fun d hd => ⟨List.mem_cons_of_mem _ (this.1 d hd).1, (this.1 d hd).2⟩, by simp; omega⟩
theorem dec_numL (n : Nat) : Lib.decDigits n = numL n := by
  induction n using Nat.strongRecOn with
  | _ n ih =>
    rw [Lib.decDigits, numL]
    by_cases h : n < 10
    · rw [dif_pos h, dif_neg (by omega)]
    · rw [dif_neg h, dif_pos (by omega), ih (n / 10) (by omega)]
theorem itoa_f (n : Nat) (h : n ≤ 9223372036854775807) : strconv_Itoa.f (n : Int) = some (bsOf (numL n)) := by
  unfold strconv_Itoa.f
  rw [if_pos ⟨by omega, by omega⟩]
  unfold Lib.itoa
  rw [if_neg (by omega), Int.toNat_natCast, dec_numL]
abbrev EvT := S24
def wfI (a : Int) : Prop := -9223372036854775808 ≤ a ∧ a ≤ 9223372036854775807
def wfE (e : EvT) : Prop := wfI e.f0 ∧ (0 ≤ e.f1 ∧ e.f1 ≤ 18446744073709551615) ∧ wfI e.f2 ∧ wfI e.f3 ∧ wfI e.f4 ∧ wfI e.f5 ∧ wfI e.f6
def okE (e : EvT) : Bool := evOk e.f0 e.f2 e.f3 e.f4 e.f5 e.f6
def nameB (k : Int) : ByteArray := rdOf ByteArray.empty evNames (k - 1)
def wordsE (e : EvT) : List Bs := [numL e.f0.toNat, numL e.f1.toNat, (nameB e.f2).data.toList, numL e.f3.toNat, numL e.f4.toNat, numL e.f5.toNat, numL e.f6.toNat]
def joinSp (l : List Bs) : Bs := Lib.join l ([32] : List UInt8)
def showE (e : EvT) : ByteArray := if okE e = true then bsOf (joinSp (wordsE e)) else ⟨#[]⟩
theorem wf_int {a : Int} (h : (Lit.int .i64 a).wf = true) : wfI a := by
  have h : IntKind.i64.min ≤ a ∧ a ≤ IntKind.i64.max := by simpa [Lit.wf] using h
  rw [show IntKind.i64.min = -9223372036854775808 from rfl, show IntKind.i64.max = 9223372036854775807 from rfl] at h
  exact h
theorem okE_parts {e : EvT} (h : okE e = true) : (1 ≤ e.f2 ∧ e.f2 ≤ 18) ∧ 0 ≤ e.f0 ∧ 0 ≤ e.f3 ∧ 0 ≤ e.f4 ∧ 0 ≤ e.f5 ∧ 0 ≤ e.f6 := by
  unfold okE evOk at h
  simp only [Bool.and_eq_true, decide_eq_true_eq] at h
  exact ⟨h.1, h.2⟩
theorem joinSp_one (a : Bs) : joinSp [a] = a := by simp [joinSp, Lib.join, List.intercalate, List.intersperse]
theorem joinSp_cons (a b : Bs) (l : List Bs) : joinSp (a :: b :: l) = a ++ 32 :: joinSp (b :: l) := by simp [joinSp, Lib.join, List.intercalate, List.intersperse]
theorem split_joinSp (E : List Bs) (h : E ≠ []) (hE : ∀ s ∈ E, (32 : UInt8) ∉ s) : splitC 32 (joinSp E) = E := by
  induction E with
  | nil => exact absurd rfl h
  | cons a l ih =>
    cases l with
    | nil => rw [joinSp_one, splitC_not _ _ (hE a (by simp))]
    | cons b l => rw [joinSp_cons, splitC_at _ _ _ (hE a (by simp)), ih (by simp) fun x hx => hE x (by simp [hx])]
theorem join_split (l : Bs) : joinSp (splitC 32 l) = l := by
  induction l with
  | nil => exact joinSp_one []
  | cons b l ih =>
    rw [splitC]
    by_cases h : b = 32
    · subst h
      rw [if_pos rfl]
      cases hs : splitC 32 l with
      | nil => exact absurd hs (splitC_ne 32 l)
      | cons x xs => rw [joinSp_cons, ← hs, ih]; rfl
    · rw [if_neg h]
      cases hs : splitC 32 l with
      | nil => exact absurd hs (splitC_ne 32 l)
      | cons x xs =>
        rw [hs] at ih
        cases xs with
        | nil => rw [joinSp_one] at ih ⊢; rw [ih]
        | cons y ys => rw [joinSp_cons] at ih ⊢; rw [List.cons_append, ih]
theorem names_all : ∀ j : Nat, j < 18 → (rdOf ByteArray.empty evNames (j : Int)).data.toList ≠ [] ∧ (rdOf ByteArray.empty evNames (j : Int)).size ≤ 6 ∧ ∀ c ∈ (rdOf ByteArray.empty evNames (j : Int)).data.toList, c.toNat ≥ 97
  | 0, _ | 1, _ | 2, _ | 3, _ | 4, _ | 5, _ | 6, _ | 7, _ | 8, _ | 9, _ | 10, _ | 11, _ | 12, _ | 13, _ | 14, _ | 15, _ | 16, _ | 17, _ => by decide
  | n + 18, h => absurd h (by omega)
theorem name_parts {k : Int} (h : 1 ≤ k ∧ k ≤ 18) : (nameB k).data.toList ≠ [] ∧ (nameB k).size ≤ 6 ∧ ∀ c ∈ (nameB k).data.toList, c.toNat ≥ 97 := by
  obtain ⟨j, hj, rfl⟩ : ∃ j : Nat, j < 18 ∧ k = (j : Int) + 1 := ⟨(k - 1).toNat, by omega, by omega⟩
  have := names_all j hj
  unfold nameB
  rw [show (j : Int) + 1 - 1 = (j : Int) by omega]
  exact this
theorem num_plain32 (n : Nat) (c : UInt8) (hc : c ∈ numL n) : c ≠ 32 ∧ c ≠ 10 := by
  have := numL_chars n c hc
  unfold isNum at this
  exact ⟨fun e => by rw [e, show (32 : UInt8).toNat = 32 from rfl] at this; omega, fun e => by rw [e, show (10 : UInt8).toNat = 10 from rfl] at this; omega⟩
theorem words_plain {e : EvT} (h : okE e = true) : ∀ s ∈ wordsE e, ∀ c ∈ s, c ≠ 32 ∧ c ≠ 10 := by
  obtain ⟨hk, _⟩ := okE_parts h
  have hn := (name_parts hk).2.2
  intro s hs c hc
  simp only [wordsE, List.mem_cons, List.mem_nil_iff, or_false] at hs
  rcases hs with rfl | rfl | rfl | rfl | rfl | rfl | rfl
  · exact num_plain32 _ c hc
  · exact num_plain32 _ c hc
  · have := hn c hc
    exact ⟨fun e => by rw [e, show (32 : UInt8).toNat = 32 from rfl] at this; omega, fun e => by rw [e, show (10 : UInt8).toNat = 10 from rfl] at this; omega⟩
  · exact num_plain32 _ c hc
  · exact num_plain32 _ c hc
  · exact num_plain32 _ c hc
  · exact num_plain32 _ c hc
theorem show_split {e : EvT} (h : okE e = true) : splitC 32 (showE e).data.toList = wordsE e := by
  unfold showE
  rw [if_pos h, bsOf_data, split_joinSp _ (by simp [wordsE]) fun s hs hc => (words_plain h s hs 32 hc).1 rfl]
theorem num20 {n : Int} (h0 : 0 ≤ n) (h : n ≤ 18446744073709551615) : (numL n.toNat).length ≤ 20 := numL_length 19 n.toNat (by omega)
theorem show_size (e : EvT) (hw : wfE e) : (showE e).size ≤ 200 := by
  unfold showE
  by_cases h : okE e = true
  · rw [if_pos h, size_bsOf]
    obtain ⟨hk, p0, p3, p4, p5, p6⟩ := okE_parts h
    obtain ⟨w0, w1, w2, w3, w4, w5, w6⟩ := hw
    unfold wfI at w0 w2 w3 w4 w5 w6
    have l0 := num20 p0 (by omega)
    have l1 := num20 w1.1 w1.2
    have l3 := num20 p3 (by omega)
    have l4 := num20 p4 (by omega)
    have l5 := num20 p5 (by omega)
    have l6 := num20 p6 (by omega)
    have l2 := (name_parts hk).2.1
    rw [size_len] at l2
    unfold wordsE
    simp only [joinSp_cons, joinSp_one, List.length_append, List.length_cons]
    omega
  · rw [if_neg h]
    exact Nat.zero_le _
theorem joinB_sp (l : List Bs) : joinB (l.map bsOf) (⟨#[32]⟩ : ByteArray) = bsOf (joinSp l) := by
  unfold joinB joinSp
  rw [List.map_map]
  congr 1
  show Lib.join (l.map fun x => (bsOf x).data.toList) ([32] : List UInt8) = _
  simp [bsOf_data]
theorem formatUint_f (n : Int) (h0 : 0 ≤ n) (h1 : n ≤ 18446744073709551615) : strconv_FormatUint.f n 10 = some (bsOf (numL n.toNat)) := by
  unfold strconv_FormatUint.f
  rw [if_pos ⟨h0, h1, rfl⟩, dec_numL]
theorem itoa_i (n : Int) (h0 : 0 ≤ n) (h1 : n ≤ 9223372036854775807) : strconv_Itoa.f n = some (bsOf (numL n.toNat)) := by
  obtain ⟨m, rfl⟩ := Int.eq_ofNat_of_zero_le h0
  exact itoa_f m (by omega)
theorem show_ev (e : EvT) (hw : wfE e) : Ev (fun k => note_Show.f k e.f0 e.f1 e.f2 e.f3 e.f4 e.f5 e.f6) (showE e) := by
  obtain ⟨a, b, c, d, p, q, n⟩ := e
  have hsz := show_size ⟨a, b, c, d, p, q, n⟩ hw
  unfold note_Show.f
  refine evBind (show note_Check.f a b c d p q n = some (okE ⟨a, b, c, d, p, q, n⟩) from rfl) ?_
  by_cases h : okE ⟨a, b, c, d, p, q, n⟩ = true
  · obtain ⟨hk, p0, p3, p4, p5, p6⟩ := okE_parts h
    obtain ⟨w0, w1, w2, w3, w4, w5, w6⟩ := hw
    unfold wfI at w0 w2 w3 w4 w5 w6
    dsimp only at hk p0 p3 p4 p5 p6 w0 w1 w2 w3 w4 w5 w6
    refine evPos h (evBind (itoa_i a p0 w0.2) (evBind (formatUint_f b w1.1 w1.2) (evBind (show note_Name.f c = some (nameB c) by unfold note_Name.f nameB; rw [if_pos hk]) ?_)))
    have hjoin : strings_Join.f ([bsOf (numL a.toNat), bsOf (numL b.toNat), nameB c, bsOf (numL d.toNat), bsOf (numL p.toNat), bsOf (numL q.toNat), bsOf (numL n.toNat)] : List ByteArray) (⟨#[32]⟩ : ByteArray) = some (showE ⟨a, b, c, d, p, q, n⟩) := by
      have e1 : ([bsOf (numL a.toNat), bsOf (numL b.toNat), nameB c, bsOf (numL d.toNat), bsOf (numL p.toNat), bsOf (numL q.toNat), bsOf (numL n.toNat)] : List ByteArray) = (wordsE ⟨a, b, c, d, p, q, n⟩).map bsOf := by
        simp only [wordsE, List.map_cons, List.map_nil, bsOf_of]
      have e2 := joinB_sp (wordsE ⟨a, b, c, d, p, q, n⟩)
      have e3 : showE ⟨a, b, c, d, p, q, n⟩ = bsOf (joinSp (wordsE ⟨a, b, c, d, p, q, n⟩)) := by unfold showE; rw [if_pos h]
      have e4 : (Lib.join (((wordsE ⟨a, b, c, d, p, q, n⟩).map bsOf).map (·.data.toList)) ((⟨#[32]⟩ : ByteArray)).data.toList).length ≤ 200 := by
        have h5 := congrArg (fun s : ByteArray => s.data.toList.length) e2
        rw [e3, size_bsOf] at hsz
        exact Nat.le_trans (Nat.le_of_eq h5) hsz
      rw [e1]
      unfold strings_Join.f
      rw [if_pos ⟨by simp [wordsE], Nat.le_trans e4 (by decide)⟩, e2, e3]
    have fin : Ev (fun k => note_Show.l0 d p q n k ([bsOf (numL a.toNat), bsOf (numL b.toNat), nameB c, bsOf (numL d.toNat), bsOf (numL p.toNat), bsOf (numL q.toNat), bsOf (numL n.toNat)] : List ByteArray) 4) (showE ⟨a, b, c, d, p, q, n⟩) := by
      refine evSucc ?_
      simp only [note_Show.l0]
      exact evNeg (by decide) (evBind hjoin (Ev.now _))
    have step : ∀ (i x : Int) (l : List ByteArray) (r : ByteArray), 0 ≤ i → i < 4 → l.length ≤ 100 → rd ([d, p, q, n] : List Int) i = x → 0 ≤ x → x ≤ 9223372036854775807 → Ev (fun k => note_Show.l0 d p q n k (l ++ [bsOf (numL x.toNat)]) (i + 1)) r → Ev (fun k => note_Show.l0 d p q n k l i) r := by
      intro i x l r hi hi4 hl hx x0 x1 hn
      have e2 : wrap64 (i + 1) = i + 1 := by unfold wrap64; omega
      refine evSucc ?_
      simp only [note_Show.l0, hx, e2]
      exact evPos (by omega) (evPos (by omega) (evBind (itoa_i x x0 x1) (evPos (by omega) hn)))
    exact step 0 d _ _ (by decide) (by decide) (by simp) rfl p3 w3.2 (step 1 p _ _ (by decide) (by decide) (by simp) rfl p4 w4.2 (step 2 q _ _ (by decide) (by decide) (by simp) rfl p5 w5.2 (step 3 n _ _ (by decide) (by decide) (by simp) rfl p6 w6.2 fin)))
  · refine evNeg h (evEq (Ev.now _) ?_)
    unfold showE
    rw [if_neg h]
def numberV (s : Bs) : Int := if (digS (bsOf s)).2 = true then (if (digS (bsOf s)).1 > 9223372036854775807 then -1 else (digS (bsOf s)).1) else -1
def kindV (s : Bs) : Int := match evNames.findIdx? (fun n => n.data.toList == s) with
  | some j => (j : Int) + 1
  | none => 0
abbrev ET := Int × Int × Int × Int × Int × Int × Int × Int
def noE : ET := (0, 0, 0, 0, 0, 0, 0, 3)
def toT (e : EvT) : ET := (e.f0, e.f1, e.f2, e.f3, e.f4, e.f5, e.f6, 0)
def ofW : List Bs → EvT
  | [w0, w1, w2, w3, w4, w5, w6] => ⟨numberV w0, (digS (bsOf w1)).1, kindV w2, numberV w3, numberV w4, numberV w5, numberV w6⟩
  | _ => ⟨0, 0, 0, 0, 0, 0, 0⟩
def readB (s : ByteArray) : Bool := (splitC 32 s.data.toList).length == 7 && (showE (ofW (splitC 32 s.data.toList))).data.toList == s.data.toList
def readS (s : ByteArray) : ET := if readB s = true then toT (ofW (splitC 32 s.data.toList)) else noE
theorem digGo_range (l : Bs) : ∀ n v, 0 ≤ n → n ≤ 18446744073709551615 → digGo n l = some v → 0 ≤ v ∧ v ≤ 18446744073709551615 := by
  induction l with
  | nil => intro n v h0 h1 h; rw [digGo] at h; injection h with h; omega
  | cons c l ih =>
    intro n v h0 h1 h
    rw [digGo] at h
    split at h
    · refine ih _ v ?_ ?_ h
      · unfold digStep
        split
        · omega
        · rw [show ∀ x : Int, IntKind.u64.wrap x = x % 18446744073709551616 from fun x => by simp [IntKind.wrap, IntKind.bits, IntKind.signed]]
          omega
      · unfold digStep
        split
        · omega
        · rw [show ∀ x : Int, IntKind.u64.wrap x = x % 18446744073709551616 from fun x => by simp [IntKind.wrap, IntKind.bits, IntKind.signed]]
          omega
    · cases h
theorem digS_range (s : ByteArray) : 0 ≤ (digS s).1 ∧ (digS s).1 ≤ 18446744073709551615 := by
  unfold digS
  cases h : digGo 0 s.data.toList with
  | none => simp
  | some v => exact digGo_range _ 0 v (by omega) (by omega) h
theorem numberV_range (s : Bs) : -1 ≤ numberV s ∧ numberV s ≤ 9223372036854775807 := by
  have := digS_range (bsOf s)
  unfold numberV
  split
  · split <;> omega
  · omega
theorem kindV_range (s : Bs) : 0 ≤ kindV s ∧ kindV s ≤ 18 := by
  unfold kindV
  split
  · rename_i j h
    have := (List.findIdx?_eq_some_iff_getElem.1 h).1
    have e : evNames.length = 18 := rfl
    omega
  · omega
theorem ofW_wf (l : List Bs) : wfE (ofW l) := by
  unfold ofW
  split
  · rename_i w0 w1 w2 w3 w4 w5 w6
    have h0 := numberV_range w0
    have h1 := digS_range (bsOf w1)
    have h2 := kindV_range w2
    have h3 := numberV_range w3
    have h4 := numberV_range w4
    have h5 := numberV_range w5
    have h6 := numberV_range w6
    unfold wfE wfI
    dsimp only
    omega
  · unfold wfE wfI
    dsimp only
    omega
theorem number_ev (s : ByteArray) (hs : s.size ≤ 4611686018427387904) : Ev (fun k => note_number.f k s) (numberV s.data.toList) := by
  have hr := digS_range s
  unfold note_number.f numberV
  rw [bsOf_of]
  refine Ev.bind (digits_ev s hs) (evIte (fun _ => evIte (fun _ => Ev.now _) fun h => evEq (Ev.now _) ?_) fun _ => Ev.now _)
  unfold wrap64
  omega
theorem kind_l0 (s : ByteArray) : ∀ (n i : Nat), i + n = 18 → (∀ j : Nat, j < i → (rdOf ByteArray.empty evNames (j : Int)).data.toList ≠ s.data.toList) → Ev (fun k => note_kind.l0 k s ((i : Int) + 1)) (kindV s.data.toList) := by
  have hlen : evNames.length = 18 := rfl
  intro n
  induction n with
  | zero =>
    intro i hi hno
    refine evSucc ?_
    simp only [note_kind.l0]
    refine evNeg (by omega) (evEq (Ev.now _) ?_)
    unfold kindV
    have : evNames.findIdx? (fun n => n.data.toList == s.data.toList) = none := by
      rw [List.findIdx?_eq_none_iff]
      intro x hx
      obtain ⟨j, hj, rfl⟩ := List.mem_iff_getElem.1 hx
      have := hno j (by omega)
      rw [rdOf_get _ _ hj] at this
      simpa using this
    rw [this]
  | succ n ih =>
    intro i hi hno
    have hlt : i < evNames.length := by omega
    have e2 : wrap64 ((i : Int) + 1 + 1) = ((i + 1 : Nat) : Int) + 1 := by unfold wrap64; omega
    have hname : note_Name.f ((i : Int) + 1) = some (rdOf ByteArray.empty evNames (i : Int)) := by
      unfold note_Name.f
      rw [if_pos (by omega), show (i : Int) + 1 - 1 = (i : Int) by omega]
    refine evSucc ?_
    simp only [note_kind.l0, e2]
    refine evPos (by omega) (evBind hname ?_)
    rw [tl, tl]
    by_cases h : (rdOf ByteArray.empty evNames (i : Int)).data.toList = s.data.toList
    · refine evPos h (evEq (Ev.now _) ?_)
      unfold kindV
      have : evNames.findIdx? (fun n => n.data.toList == s.data.toList) = some i := by
        rw [List.findIdx?_eq_some_iff_getElem]
        refine ⟨hlt, by rw [← rdOf_get _ _ hlt]; simpa using h, fun j hj => ?_⟩
        have := hno j hj
        rw [rdOf_get _ _ (by omega)] at this
        simpa using this
      rw [this]
    · refine evNeg h (ih (i + 1) (by omega) fun j hj => ?_)
      by_cases e : j = i
      · rw [e]; exact h
      · exact hno j (by omega)
theorem kind_ev (s : ByteArray) : Ev (fun k => note_kind.f k s) (kindV s.data.toList) := kind_l0 s 18 0 (by omega) fun j hj => absurd hj (Nat.not_lt_zero _)
theorem seven {l : List Bs} (h : l.length = 7) : ∃ w0 w1 w2 w3 w4 w5 w6, l = [w0, w1, w2, w3, w4, w5, w6] := by
  match l, h with
  | [w0, w1, w2, w3, w4, w5, w6], _ => exact ⟨w0, w1, w2, w3, w4, w5, w6, rfl⟩
theorem read_ev (s : ByteArray) (hs : s.size ≤ 4000000000) : Ev (fun k => note_Read.f k s) (readS s) := by
  have hlen := size_len s
  unfold note_Read.f
  refine evBind (split1_f s 32 (by omega)) ?_
  rw [splitL_bs]
  by_cases h7 : (splitC 32 s.data.toList).length = 7
  · obtain ⟨w0, w1, w2, w3, w4, w5, w6, hw⟩ := seven h7
    have hm := splitC_mem 32 s.data.toList
    rw [hw] at hm
    have z : ∀ y, y ∈ [w0, w1, w2, w3, w4, w5, w6] → (bsOf y).size ≤ 4611686018427387904 := fun y hy => by
      have := (hm y hy).2
      rw [size_bsOf]
      omega
    have hne : s.data.toList ≠ [] := fun e => by rw [e] at hw; cases hw
    have hwf := ofW_wf [w0, w1, w2, w3, w4, w5, w6]
    have hsh := show_ev (ofW [w0, w1, w2, w3, w4, w5, w6]) hwf
    have n0 := number_ev (bsOf w0) (z w0 (by simp))
    have n3 := number_ev (bsOf w3) (z w3 (by simp))
    have n4 := number_ev (bsOf w4) (z w4 (by simp))
    have n5 := number_ev (bsOf w5) (z w5 (by simp))
    have n6 := number_ev (bsOf w6) (z w6 (by simp))
    have k2 := kind_ev (bsOf w2)
    rw [bsOf_data] at n0 n3 n4 n5 n6 k2
    unfold readS readB
    rw [hw]
    simp only [List.map_cons, List.map_nil, List.length_cons, List.length_nil]
    refine evPos (by decide) (evPos (by decide) (Ev.bind (digits_ev (bsOf w1) (z w1 (by simp))) (evPos (by decide) (Ev.bind n0 (evPos (by decide) (Ev.bind k2 (evPos (by decide) (Ev.bind n3 (evPos (by decide) (Ev.bind n4 (evPos (by decide) (Ev.bind n5 (evPos (by decide) (Ev.bind n6 (evNeg (by rw [tl]; exact hne) (Ev.bind hsh ?_))))))))))))))))
    rw [tl, tl]
    by_cases he : (showE (ofW [w0, w1, w2, w3, w4, w5, w6])).data.toList = s.data.toList
    · refine evPos he (evEq (Ev.now _) ?_)
      rw [if_pos (by simpa using he)]
      rfl
    · refine evNeg he (evEq (Ev.now _) ?_)
      rw [if_neg (by simpa using he)]
      rfl
  · refine evNeg (by rw [List.length_map]; omega) (evEq (Ev.now _) ?_)
    unfold readS readB
    rw [if_neg (by simp [h7])]
    rfl
theorem kind_names : ∀ j : Nat, j < 18 → kindV (rdOf ByteArray.empty evNames (j : Int)).data.toList = (j : Int) + 1
  | 0, _ | 1, _ | 2, _ | 3, _ | 4, _ | 5, _ | 6, _ | 7, _ | 8, _ | 9, _ | 10, _ | 11, _ | 12, _ | 13, _ | 14, _ | 15, _ | 16, _ | 17, _ => by decide
  | n + 18, h => absurd h (by omega)
theorem kind_name {k : Int} (h : 1 ≤ k ∧ k ≤ 18) : kindV (nameB k).data.toList = k := by
  obtain ⟨j, hj, rfl⟩ : ∃ j : Nat, j < 18 ∧ k = (j : Int) + 1 := ⟨(k - 1).toNat, by omega, by omega⟩
  have := kind_names j hj
  unfold nameB
  rw [show (j : Int) + 1 - 1 = (j : Int) by omega]
  exact this
theorem readS_cases (s : ByteArray) : (readB s = false ∧ readS s = noE) ∨ (readB s = true ∧ readS s = toT (ofW (splitC 32 s.data.toList)) ∧ showE (ofW (splitC 32 s.data.toList)) = s ∧ okE (ofW (splitC 32 s.data.toList)) = true ∧ wfE (ofW (splitC 32 s.data.toList))) := by
  cases h : readB s with
  | false => exact .inl ⟨rfl, by unfold readS; rw [h]; rfl⟩
  | true =>
    have h' := h
    unfold readB at h
    simp only [Bool.and_eq_true, beq_iff_eq] at h
    refine .inr ⟨rfl, by unfold readS; rw [h']; rfl, ba_ext h.2, ?_, ofW_wf _⟩
    cases hk : okE (ofW (splitC 32 s.data.toList)) with
    | true => rfl
    | false =>
      exfalso
      have h2 := h.2
      unfold showE at h2
      rw [hk] at h2
      have h1 := h.1
      rw [← h2] at h1
      cases h1
theorem awake24 : ∃ k, lockkeeperlaw24_awake.f k = some true := ⟨60, by decide +kernel⟩
theorem awake24_ev : Ev (fun k => lockkeeperlaw24_awake.f k) true := Ev.of lockkeeperlaw24_awake.mono awake24.choose_spec
theorem digStep_nonneg (n : Int) (c : UInt8) : 0 ≤ digStep n c := by
  unfold digStep
  split
  · omega
  · rw [show ∀ x : Int, IntKind.u64.wrap x = x % 18446744073709551616 from fun x => by simp [IntKind.wrap, IntKind.bits, IntKind.signed]]
    omega
theorem digGo_nonneg (l : Bs) : ∀ n v, 0 ≤ n → digGo n l = some v → 0 ≤ v := by
  induction l with
  | nil => intro n v h0 h; rw [digGo] at h; injection h with h; omega
  | cons c l ih =>
    intro n v h0 h
    rw [digGo] at h
    split at h
    · exact ih _ v (digStep_nonneg n c) h
    · cases h
theorem digS_nonneg (s : ByteArray) : 0 ≤ (digS s).1 := by
  unfold digS
  cases h : digGo 0 s.data.toList with
  | none => simp
  | some v => exact digGo_nonneg _ 0 v (by omega) h
theorem digStep_lt (n : Int) (c : UInt8) : digStep n c < 18446744073709551616 := by
  unfold digStep
  split
  · omega
  · rw [show ∀ x : Int, IntKind.u64.wrap x = x % 18446744073709551616 from fun x => by simp [IntKind.wrap, IntKind.bits, IntKind.signed]]
    omega
theorem digGo_lt (l : Bs) : ∀ n v, n < 18446744073709551616 → digGo n l = some v → v < 18446744073709551616 := by
  induction l with
  | nil => intro n v h0 h; rw [digGo] at h; injection h with h; omega
  | cons c l ih =>
    intro n v h0 h
    rw [digGo] at h
    split at h
    · exact ih _ v (digStep_lt n c) h
    · cases h
theorem digS_lt (s : ByteArray) : (digS s).1 < 18446744073709551616 := by
  unfold digS
  cases h : digGo 0 s.data.toList with
  | none => simp
  | some v => exact digGo_lt _ 0 v (by omega) h
def countS (t : ByteArray) (m : Int) : Int × Bool := if (digS t).2 = true then (if (t.size : Int) > 20 then (0, false) else if (bsOf (numL (digS t).1.toNat)).toList = t.toList then (if (digS t).1 > m then (0, false) else ((digS t).1, true)) else (0, false)) else (0, false)
theorem count_ev (t : ByteArray) (m : Int) (ht : t.size ≤ 100000) : Ev (fun k => lockkeeperref1_Count.f k t m) (countS t m) := by
  unfold lockkeeperref1_Count.f countS
  have h0 := digS_nonneg t
  have h1 := digS_lt t
  refine Ev.bind (rdig_ev t (by omega)) (evIte (fun _ => evIte (fun _ => Ev.now _) fun _ => ?_) fun _ => Ev.now _)
  have hn := num_ev (digS t).1.toNat (by omega)
  rw [Int.toNat_of_nonneg h0] at hn
  exact Ev.bind hn (evIte (fun _ => evIte (fun _ => Ev.now _) fun _ => Ev.now _) fun _ => Ev.now _)
theorem events_same (l : List EvT) (hl : l.length ≤ 1000000000) : Ev (fun k => lockkeeperlaw0_Events.f k l l) true := by
  have key : ∀ n i : Nat, i + n = l.length → Ev (fun k => lockkeeperlaw0_Events.l0 k l l (i : Int)) true := by
    intro n
    induction n with
    | zero =>
      intro i hi
      refine evSucc ?_
      simp only [lockkeeperlaw0_Events.l0]
      exact evNeg (by omega) (Ev.now _)
    | succ n ih =>
      intro i hi
      have e2 : wrap64 ((i : Int) + 1) = ((i + 1 : Nat) : Int) := by unfold wrap64; omega
      refine evSucc ?_
      simp only [lockkeeperlaw0_Events.l0, e2]
      exact evPos (by omega) (evPos (by omega) (evPos (by omega) (evNeg (by simp) (ih (i + 1) (by omega)))))
  unfold lockkeeperlaw0_Events.f
  exact evPos rfl (key l.length 0 (by omega))
abbrev ST := List EvT × Int × Int
def evOf (x : Bs) : EvT := ofW (splitC 32 x)
def splitV : List Bs → List EvT → Int → ST
  | [], acc, _ => (acc, 0, 0)
  | [x], acc, n => if x = [] then (acc, 0, 0) else ([], n, 3)
  | x :: y :: r, acc, n => if readB (bsOf x) = true then splitV (y :: r) (acc ++ [evOf x]) (n + 1) else ([], n, 3)
def joinN (l : List Bs) : Bs := Lib.join l ([10] : List UInt8)
theorem joinN_one (a : Bs) : joinN [a] = a := by simp [joinN, Lib.join, List.intercalate, List.intersperse]
theorem joinN_cons (a b : Bs) (l : List Bs) : joinN (a :: b :: l) = a ++ 10 :: joinN (b :: l) := by simp [joinN, Lib.join, List.intercalate, List.intersperse]
theorem joinN_split (l : Bs) : joinN (splitC 10 l) = l := by
  induction l with
  | nil => exact joinN_one []
  | cons b l ih =>
    rw [splitC]
    by_cases h : b = 10
    · subst h
      rw [if_pos rfl]
      cases hs : splitC 10 l with
      | nil => exact absurd hs (splitC_ne 10 l)
      | cons x xs => rw [joinN_cons, ← hs, ih]; rfl
    · rw [if_neg h]
      cases hs : splitC 10 l with
      | nil => exact absurd hs (splitC_ne 10 l)
      | cons x xs =>
        rw [hs] at ih
        cases xs with
        | nil => rw [joinN_one] at ih ⊢; rw [ih]
        | cons y ys => rw [joinN_cons] at ih ⊢; rw [List.cons_append, ih]
theorem read_code (s : ByteArray) : (readS s).2.2.2.2.2.2.2 = 0 ↔ readB s = true := by
  unfold readS
  cases h : readB s with
  | true => rw [if_pos rfl]; exact ⟨fun _ => rfl, fun _ => rfl⟩
  | false => rw [if_neg (by decide)]; simp [noE]
theorem split_l0 : ∀ (L : List Bs), L ≠ [] → (∀ s ∈ L, (10 : UInt8) ∉ s) → ∀ (acc : List EvT) (n : Int), (joinN L).length ≤ 1000000 → acc.length + L.length ≤ 2000000 → 0 ≤ n → n + L.length ≤ 4000000 →
    Ev (fun k => note_Split.l0 k (bsOf (joinN L)) acc n) (splitV L acc n) := by
  intro L
  induction L with
  | nil => intro h; exact absurd rfl h
  | cons x L ih =>
    intro _ hno acc n hz ha h0 hn
    have hx := hno x (by simp)
    cases L with
    | nil =>
      rw [joinN_one] at hz ⊢
      rw [splitV]
      refine evSucc ?_
      simp only [note_Split.l0, tl, bsOf_data]
      by_cases h : x = []
      · rw [if_pos h]
        exact evPos h (Ev.now _)
      · rw [if_neg h]
        have hc : strings_Cut.f (bsOf x) (⟨#[10]⟩ : ByteArray) = some (bsOf x, ⟨#[]⟩, false) := by
          rw [cut_f _ _ (by rw [size_bsOf]; omega), cutS_not _ 10 (by rw [bsOf_data]; exact hx)]
        exact evNeg h (evBind hc (Ev.bind (read_ev (bsOf x) (by rw [size_bsOf]; omega)) (evNeg (by simp) (Ev.now _))))
    | cons y r =>
      rw [joinN_cons] at hz ⊢
      rw [splitV]
      have hlen : (x ++ 10 :: joinN (y :: r)).length = x.length + (1 + (joinN (y :: r)).length) := by rw [List.length_append, List.length_cons]; omega
      have hc : strings_Cut.f (bsOf (x ++ 10 :: joinN (y :: r))) (⟨#[10]⟩ : ByteArray) = some (bsOf x, bsOf (joinN (y :: r)), true) := by
        rw [cut_f _ _ (by rw [size_bsOf]; omega), cutS_at _ x (joinN (y :: r)) 10 (bsOf_data _) hx]
      have e2 : wrap64 (n + 1) = n + 1 := by unfold wrap64; omega
      simp only [List.length_cons] at ha hn
      have hcode := read_code (bsOf x)
      refine evSucc ?_
      simp only [note_Split.l0, tl, bsOf_data, e2]
      refine evNeg (by simp) (evBind hc (Ev.bind (read_ev (bsOf x) (by rw [size_bsOf]; omega)) (evPos rfl ?_)))
      by_cases hr : readB (bsOf x) = true
      · rw [if_pos hr]
        refine evPos (hcode.2 hr) (evPos (by omega) ?_)
        have he : readS (bsOf x) = toT (evOf x) := by unfold readS evOf; rw [if_pos hr, bsOf_data]
        rw [he]
        refine ih (by simp) (fun s hs => hno s (by simp [hs])) (acc ++ [evOf x]) (n + 1) (by omega) (by simp; omega) (by omega) (by simp only [List.length_cons]; omega)
      · rw [if_neg hr]
        exact evNeg (fun h => hr (hcode.1 h)) (Ev.now _)
theorem split_ev (s : ByteArray) (hs : s.size ≤ 1000000) : Ev (fun k => note_Split.f k s) (splitV (splitC 10 s.data.toList) [] 1) := by
  have hc := splitC_count 10 s.data.toList
  have hz := size_len s
  have := split_l0 (splitC 10 s.data.toList) (splitC_ne _ _) (fun y hy h => ((splitC_mem 10 _ y hy).1 _ h).2 rfl) [] 1 (by rw [joinN_split]; omega) (by simp; omega) (by omega) (by omega)
  rw [joinN_split, bsOf_of] at this
  unfold note_Split.f
  exact this
theorem words_l0 (s : ByteArray) (hs : s.size ≤ 1000000) : ∀ (r d cur : Bs) (K : List Bs), s.data.toList = d ++ (cur ++ r) → (32 : UInt8) ∉ cur → K.length ≤ d.length →
    Ev (fun k => lockkeeperref24_Words.l0 k s (K.map bsOf) (d.length : Int) ((d.length + cur.length : Nat) : Int)) ((K ++ splitC 32 (cur ++ r)).map bsOf) := by
  intro r
  induction r with
  | nil =>
    intro d cur K hd hc hK
    have hz : s.size = d.length + cur.length := by rw [size_len, hd]; simp
    have hx : s.extract d.length (d.length + cur.length) = bsOf cur := ba_ext (by rw [extract_list, bsOf_data, hd, List.append_nil, ← List.length_append, List.take_length]; simp)
    have e2 : wrap64 (((d.length + cur.length : Nat) : Int) + 1) = ((d.length + cur.length + 1 : Nat) : Int) := by unfold wrap64; omega
    rw [List.append_nil, splitC_not _ _ hc]
    refine evSucc ?_
    simp only [lockkeeperref24_Words.l0, e2, Int.toNat_natCast, hx]
    refine evPos (by omega) (evPos (by omega) (evPos (by omega) (evPos (by omega) (evPos (by rw [List.length_map]; omega) (evSucc ?_)))))
    simp only [lockkeeperref24_Words.l0]
    exact evNeg (by omega) (evEq (Ev.now _) (by simp))
  | cons b r ih =>
    intro d cur K hd hc hK
    have hz : s.size = d.length + cur.length + (r.length + 1) := by rw [size_len, hd]; simp; omega
    have hb := bt_mid s (d ++ cur) b r (by rw [hd]; simp)
    rw [List.length_append] at hb
    refine evSucc ?_
    simp only [lockkeeperref24_Words.l0, hb]
    refine evPos (by omega) (evNeg (by omega) (evPos (by omega) (evPos (by omega) ?_)))
    by_cases h : b = 32
    · subst h
      have hx : s.extract d.length (d.length + cur.length) = bsOf cur := ba_ext (by rw [extract_list, bsOf_data, hd, ← List.append_assoc, ← List.length_append, List.take_left]; simp)
      have e2 : wrap64 (((d.length + cur.length : Nat) : Int) + 1) = ((d.length + cur.length + 1 : Nat) : Int) := by unfold wrap64; omega
      have IH := ih (d ++ (cur ++ ([32] : List UInt8))) [] (K ++ [cur]) (by rw [hd]; simp) (by simp) (by simp; omega)
      have el : (d ++ (cur ++ ([32] : List UInt8))).length = d.length + cur.length + 1 := by simp; omega
      rw [el, List.length_nil, Nat.add_zero, List.nil_append, List.map_append] at IH
      rw [splitC_at 32 cur r hc, e2, Int.toNat_natCast, Int.toNat_natCast, hx]
      refine evPos rfl (evPos (by omega) (evPos (by omega) (evPos (by rw [List.length_map]; omega) (evEq IH ?_))))
      rw [List.append_assoc]
      rfl
    · have e2 : wrap64 (((d.length + cur.length : Nat) : Int) + 1) = ((d.length + (cur ++ [b]).length : Nat) : Int) := by simp; unfold wrap64; omega
      have IH := ih d (cur ++ [b]) K (by rw [hd]; simp) (by intro hx; rcases List.mem_append.1 hx with hx | hx; exact hc hx; exact h (List.mem_singleton.1 hx).symm) hK
      rw [List.append_assoc] at IH
      rw [e2]
      exact evNeg (fun e => h (UInt8.toNat_inj.1 (show b.toNat = (32 : UInt8).toNat by rw [show (32 : UInt8).toNat = 32 from rfl]; omega))) IH
theorem words_ev (s : ByteArray) (hs : s.size ≤ 1000000) : Ev (fun k => lockkeeperref24_Words.f k s) ((splitC 32 s.data.toList).map bsOf) := words_l0 s hs s.data.toList [] [] [] rfl (by simp) (Nat.le_refl _)
def maxI : Int := 9223372036854775807
def maxU : Int := 18446744073709551615
theorem count_true {t : ByteArray} {m : Int} (h : (countS t m).2 = true) : (countS t m).1 = (digS t).1 ∧ (digS t).2 = true ∧ t.data.toList = numL (digS t).1.toNat ∧ (digS t).1 ≤ m := by
  unfold countS at h ⊢
  split at h
  · rename_i h1
    rw [if_pos h1]
    split at h
    · cases h
    · rename_i h2
      rw [if_neg h2]
      split at h
      · rename_i h3
        rw [if_pos h3]
        split at h
        · cases h
        · rename_i h4
          rw [if_neg h4]
          refine ⟨rfl, h1, ?_, by omega⟩
          rw [tl, tl, bsOf_data] at h3
          exact h3.symm
      · cases h
  · cases h
theorem count_of (n m : Int) (h0 : 0 ≤ n) (hm : n ≤ m) (hu : m ≤ 18446744073709551615) : countS (bsOf (numL n.toNat)) m = (n, true) := by
  have hd : digS (bsOf (numL n.toNat)) = (n, true) := by
    have := digL_num 0 n.toNat (by omega)
    rw [List.replicate_zero, List.nil_append] at this
    rw [digS_L, bsOf_data, this]
    congr 1
    omega
  have hl := num20 h0 (show n ≤ 18446744073709551615 by omega)
  unfold countS
  rw [hd]
  dsimp only
  rw [if_pos rfl, if_neg (by rw [size_bsOf]; omega), if_pos rfl, if_neg (by omega)]
theorem int_ev (t : ByteArray) (ht : t.size ≤ 100000) : Ev (fun k => lockkeeperref24_Int.f k t) (countS t maxI) := by
  have hr := digS_range t
  unfold lockkeeperref24_Int.f
  refine Ev.bind (count_ev t maxI ht) (evEq (Ev.now _) ?_)
  have : wrap64 (countS t maxI).1 = (countS t maxI).1 := by
    cases h : (countS t maxI).2 with
    | true =>
      obtain ⟨h1, _, _, h4⟩ := count_true h
      rw [h1]
      unfold maxI at h4
      unfold wrap64
      omega
    | false =>
      have h0 : (countS t maxI).1 = 0 := by
        unfold countS at h ⊢
        repeat' split
        all_goals first | rfl | (exfalso; simp_all)
      rw [h0]
      unfold wrap64
      omega
  rw [this]
theorem int_number {w : Bs} (h : (countS (bsOf w) maxI).2 = true) : (countS (bsOf w) maxI).1 = numberV w ∧ w = numL (numberV w).toNat ∧ 0 ≤ numberV w := by
  obtain ⟨h1, h2, h3, h4⟩ := count_true h
  have hr := digS_range (bsOf w)
  unfold maxI at h4
  have hn : numberV w = (digS (bsOf w)).1 := by unfold numberV; rw [if_pos h2, if_neg (by omega)]
  rw [bsOf_data] at h3
  rw [hn]
  exact ⟨h1, h3, hr.1⟩
theorem kindV_name {w : Bs} (h : kindV w ≠ 0) : 1 ≤ kindV w ∧ kindV w ≤ 18 ∧ w = (nameB (kindV w)).data.toList := by
  unfold kindV at h ⊢
  cases hf : evNames.findIdx? (fun n => n.data.toList == w) with
  | none => rw [hf] at h; exact absurd rfl h
  | some j =>
    obtain ⟨hlt, he, _⟩ := List.findIdx?_eq_some_iff_getElem.1 hf
    have hl : evNames.length = 18 := rfl
    dsimp only
    refine ⟨by omega, by omega, ?_⟩
    unfold nameB
    rw [show ((j : Int) + 1 - 1) = (j : Int) by omega, rdOf_get _ _ hlt]
    exact (by simpa using he : evNames[j].data.toList = w).symm
theorem kind_iff (w : Bs) (i : Nat) (hi : i < 18) : (rdOf ByteArray.empty evNames (i : Int)).data.toList = w ↔ kindV w = (i : Int) + 1 := by
  constructor
  · intro h
    rw [← h]
    exact kind_names i hi
  · intro h
    have := (kindV_name (w := w) (by omega)).2.2
    rw [this, h]
    unfold nameB
    rw [show ((i : Int) + 1 - 1) = (i : Int) by omega]
def flagsR (w0 w1 w2 w3 w4 w5 w6 : Bs) : Bool := (countS (bsOf w0) maxI).2 && ((countS (bsOf w1) maxU).2 && (decide (kindV w2 ≠ 0) && ((countS (bsOf w3) maxI).2 && ((countS (bsOf w4) maxI).2 && ((countS (bsOf w5) maxI).2 && (countS (bsOf w6) maxI).2)))))
theorem joinSp_inj (s : ByteArray) (l : List Bs) (h : splitC 32 s.data.toList = l) : bsOf (joinSp l) = s := ba_ext (by rw [bsOf_data, ← h, join_split])
theorem flags_read (s : ByteArray) (w0 w1 w2 w3 w4 w5 w6 : Bs) (h : splitC 32 s.data.toList = [w0, w1, w2, w3, w4, w5, w6]) : readB s = flagsR w0 w1 w2 w3 w4 w5 w6 := by
  rw [Bool.eq_iff_iff]
  constructor
  · intro hr
    rcases readS_cases s with ⟨h1, _⟩ | ⟨_, _, h3, h4, h5⟩
    · rw [hr] at h1; cases h1
    · rw [h] at h3 h4 h5
      have hw := show_split h4
      rw [h3, h] at hw
      obtain ⟨hk, p0, p3, p4, p5, p6⟩ := okE_parts h4
      obtain ⟨q0, q1, q2, q3, q4, q5, q6⟩ := h5
      unfold wfI at q0 q3 q4 q5 q6
      unfold wordsE at hw
      generalize ofW [w0, w1, w2, w3, w4, w5, w6] = e at hw hk p0 p3 p4 p5 p6 q0 q1 q3 q4 q5 q6
      simp only [List.cons.injEq, and_true] at hw
      obtain ⟨rfl, rfl, rfl, rfl, rfl, rfl, rfl⟩ := hw
      unfold flagsR maxI maxU
      rw [count_of _ _ p0 q0.2 (by omega), count_of _ _ q1.1 q1.2 (by omega), count_of _ _ p3 q3.2 (by omega), count_of _ _ p4 q4.2 (by omega), count_of _ _ p5 q5.2 (by omega), count_of _ _ p6 q6.2 (by omega), kind_name hk]
      simp
      omega
  · intro hf
    unfold flagsR at hf
    simp only [Bool.and_eq_true, decide_eq_true_eq] at hf
    obtain ⟨f0, f1, f2, f3, f4, f5, f6⟩ := hf
    obtain ⟨_, a0, b0⟩ := int_number f0
    obtain ⟨_, _, a1, _⟩ := count_true f1
    rw [bsOf_data] at a1
    obtain ⟨k1, k2, a2⟩ := kindV_name f2
    obtain ⟨_, a3, b3⟩ := int_number f3
    obtain ⟨_, a4, b4⟩ := int_number f4
    obtain ⟨_, a5, b5⟩ := int_number f5
    obtain ⟨_, a6, b6⟩ := int_number f6
    have hok : okE (ofW [w0, w1, w2, w3, w4, w5, w6]) = true := by
      unfold okE evOk ofW
      simp only [Bool.and_eq_true, decide_eq_true_eq]
      exact ⟨⟨k1, k2⟩, b0, b3, b4, b5, b6⟩
    have hwd : wordsE (ofW [w0, w1, w2, w3, w4, w5, w6]) = [w0, w1, w2, w3, w4, w5, w6] := by
      unfold wordsE ofW
      dsimp only
      rw [← a0, ← a1, ← a2, ← a3, ← a4, ← a5, ← a6]
    unfold readB
    rw [h]
    unfold showE
    rw [if_pos hok, hwd, joinSp_inj s _ h]
    simp
theorem rread_l0 (ws : List ByteArray) (w2 : Bs) (hw : 2 < ws.length) (h2 : (rdOf ByteArray.empty ws 2).data.toList = w2) (x5 x7 : Int) (x6 x8 : Bool) (r : ET)
    (fin : Ev (fun k => lockkeeperref24_Read.l0 k ws x5 x6 x7 x8 (kindV w2) evNames 18) r) : ∀ n i : Nat, i + n = 18 → Ev (fun k => lockkeeperref24_Read.l0 k ws x5 x6 x7 x8 (if kindV w2 ≤ (i : Int) then kindV w2 else 0) evNames (i : Int)) r := by
  have hr := kindV_range w2
  intro n
  induction n with
  | zero =>
    intro i hi
    obtain rfl : i = 18 := by omega
    rw [if_pos (by omega)]
    exact fin
  | succ n ih =>
    intro i hi
    have e2 : wrap64 ((i : Int) + 1) = ((i + 1 : Nat) : Int) := by unfold wrap64; omega
    have hl : (evNames.length : Int) = 18 := rfl
    have hki := kind_iff w2 i (by omega)
    have IH := ih (i + 1) (by omega)
    refine evSucc ?_
    simp only [lockkeeperref24_Read.l0, e2, hl, tl, h2]
    refine evPos (by omega) (evPos (by omega) (evPos (by omega) ?_))
    by_cases h : (rdOf ByteArray.empty evNames (i : Int)).data.toList = w2
    · have hk := hki.1 h
      rw [if_pos (by omega), hk] at IH
      exact evPos h IH
    · have hk : ¬ kindV w2 = (i : Int) + 1 := fun e => h (hki.2 e)
      refine evNeg h ?_
      by_cases hc : kindV w2 ≤ (i : Int)
      · rw [if_pos (by omega)] at IH
        rw [if_pos hc]
        exact IH
      · rw [if_neg (by omega)] at IH
        rw [if_neg hc]
        exact IH
theorem rread_ev (s : ByteArray) (hs : s.size ≤ 100000) : Ev (fun k => lockkeeperref24_Read.f k s) (readS s) := by
  have hlen := size_len s
  unfold lockkeeperref24_Read.f
  refine Ev.bind (words_ev s (by omega)) ?_
  by_cases h7 : (splitC 32 s.data.toList).length = 7
  · obtain ⟨w0, w1, w2, w3, w4, w5, w6, hw⟩ := seven h7
    have hm := splitC_mem 32 s.data.toList
    rw [hw] at hm
    have z : ∀ y, y ∈ [w0, w1, w2, w3, w4, w5, w6] → (bsOf y).size ≤ 100000 := fun y hy => by
      have := (hm y hy).2
      rw [size_bsOf]
      omega
    have i0 := int_ev (bsOf w0) (z w0 (by simp))
    have i1 := count_ev (bsOf w1) maxU (z w1 (by simp))
    have i3 := int_ev (bsOf w3) (z w3 (by simp))
    have i4 := int_ev (bsOf w4) (z w4 (by simp))
    have i5 := int_ev (bsOf w5) (z w5 (by simp))
    have i6 := int_ev (bsOf w6) (z w6 (by simp))
    have hres : readS s = if (countS (bsOf w0) maxI).2 = true then (if (countS (bsOf w1) maxU).2 = true then (if kindV w2 = 0 then noE else (if (countS (bsOf w3) maxI).2 = true then (if (countS (bsOf w4) maxI).2 = true then (if (countS (bsOf w5) maxI).2 = true then (if (countS (bsOf w6) maxI).2 = true then ((countS (bsOf w0) maxI).1, (countS (bsOf w1) maxU).1, kindV w2, (countS (bsOf w3) maxI).1, (countS (bsOf w4) maxI).1, (countS (bsOf w5) maxI).1, (countS (bsOf w6) maxI).1, 0) else noE) else noE) else noE) else noE)) else noE) else noE := by
      have hfr := flags_read s w0 w1 w2 w3 w4 w5 w6 hw
      unfold flagsR at hfr
      unfold readS
      rw [hfr, hw]
      cases f0 : (countS (bsOf w0) maxI).2 with
      | false => rfl
      | true =>
      cases f1 : (countS (bsOf w1) maxU).2 with
      | false => rfl
      | true =>
      by_cases f2 : kindV w2 = 0
      · simp [f2]
      cases f3 : (countS (bsOf w3) maxI).2 with
      | false => simp [f2]
      | true =>
      cases f4 : (countS (bsOf w4) maxI).2 with
      | false => simp [f2]
      | true =>
      cases f5 : (countS (bsOf w5) maxI).2 with
      | false => simp [f2]
      | true =>
      cases f6 : (countS (bsOf w6) maxI).2 with
      | false => simp [f2]
      | true =>
        rw [(int_number f0).1, (count_true f1).1, (int_number f3).1, (int_number f4).1, (int_number f5).1, (int_number f6).1]
        simp [f2, toT, ofW]
    rw [hw]
    simp only [List.map_cons, List.map_nil, List.length_cons, List.length_nil]
    refine evPos (by decide) (evPos (by decide) (Ev.bind i0 (evPos (by decide) (Ev.bind i1 (evBind (show lockkeeperref24_Names.f = some evNames from rfl) ?_)))))
    have hstart := rread_l0 [bsOf w0, bsOf w1, bsOf w2, bsOf w3, bsOf w4, bsOf w5, bsOf w6] w2 (by simp) (bsOf_data w2) (countS (bsOf w0) maxI).1 (countS (bsOf w1) maxU).1 (countS (bsOf w0) maxI).2 (countS (bsOf w1) maxU).2 (readS s) ?_ 18 0 (by omega)
    · have hk := kindV_range w2
      have e0 : (if kindV w2 ≤ ((0 : Nat) : Int) then kindV w2 else 0) = 0 := by split <;> omega
      rw [e0] at hstart
      exact hstart
    · rw [hres]
      refine evSucc ?_
      simp only [lockkeeperref24_Read.l0]
      refine evNeg (by decide) (evPos (by simp) (Ev.bind i3 (evPos (by simp) (Ev.bind i4 (evPos (by simp) (Ev.bind i5 (evPos (by simp) (Ev.bind i6 ?_))))))))
      exact evIte (fun _ => evIte (fun _ => evIte (fun _ => Ev.now _) fun _ => evIte (fun _ => evIte (fun _ => evIte (fun _ => evIte (fun _ => Ev.now _) fun _ => Ev.now _) fun _ => Ev.now _) fun _ => Ev.now _) fun _ => Ev.now _) fun _ => Ev.now _) fun _ => Ev.now _
  · refine evNeg (by rw [List.length_map]; omega) (evEq (Ev.now _) ?_)
    unfold readS readB
    rw [if_neg (by simp [h7])]
    rfl
theorem rname_f (k : Int) : lockkeeperref24_Name.f k = note_Name.f k := by
  unfold lockkeeperref24_Name.f note_Name.f
  by_cases h1 : k < 1
  · rw [if_pos h1, if_neg (by omega)]
  · rw [if_neg h1]
    by_cases h2 : k > 18
    · rw [if_pos h2, if_neg (by omega)]
    · have e1 : wrap64 (k - 1) = k - 1 := by unfold wrap64; omega
      rw [if_neg h2, if_pos (by omega), show lockkeeperref24_Names.f = some evNames from rfl]
      simp only [Option.bind_some, e1]
      rw [if_pos (by omega), if_pos (by rw [show (evNames.length : Int) = 18 from rfl]; omega)]
theorem rcheck_f (e : EvT) : lockkeeperref24_Check.f e.f0 e.f1 e.f2 e.f3 e.f4 e.f5 e.f6 = some (okE e) := by
  unfold lockkeeperref24_Check.f okE evOk
  rw [rname_f]
  unfold note_Name.f
  simp only [Option.bind_some]
  by_cases hk : 1 ≤ e.f2 ∧ e.f2 ≤ 18
  · rw [if_pos hk, tl, if_neg (show ¬ (rdOf ByteArray.empty evNames (e.f2 - 1)).data.toList = [] from (name_parts hk).1), decide_eq_true hk, Bool.true_and]
    by_cases h0 : e.f0 ≥ 0
    · rw [if_pos h0]
      by_cases h3 : e.f3 ≥ 0
      · rw [if_pos h3]
        by_cases h4 : e.f4 ≥ 0
        · rw [if_pos h4]
          by_cases h5 : e.f5 ≥ 0
          · rw [if_pos h5]
            congr 1
            rw [decide_eq_decide]
            omega
          · rw [if_neg h5, decide_eq_false (by omega)]
        · rw [if_neg h4, decide_eq_false (by omega)]
      · rw [if_neg h3, decide_eq_false (by omega)]
    · rw [if_neg h0, decide_eq_false (by omega)]
  · rw [if_neg hk, tl, if_pos rfl, decide_eq_false hk, Bool.false_and]
theorem rnum_ev (n : Int) (h0 : 0 ≤ n) (h1 : n ≤ 18446744073709551615) : Ev (fun k => lockkeeperref1_Num.f k n) (bsOf (numL n.toNat)) := by
  obtain ⟨m, rfl⟩ := Int.eq_ofNat_of_zero_le h0
  exact num_ev m (by omega)
theorem rnumI_ev (n : Int) (h0 : 0 ≤ n) (h1 : n ≤ 9223372036854775807) : Ev (fun k => lockkeeperref24_num.f k n) (bsOf (numL n.toNat)) := by
  unfold lockkeeperref24_num.f
  have : IntKind.u64.wrap n = n := by
    obtain ⟨m, rfl⟩ := Int.eq_ofNat_of_zero_le h0
    exact u64_wrap m (by omega)
  rw [this]
  exact Ev.bind (rnum_ev n h0 (by omega)) (Ev.now _)
theorem rshow_ev (e : EvT) (hw : wfE e) : Ev (fun k => lockkeeperref24_Show.f k e.f0 e.f1 e.f2 e.f3 e.f4 e.f5 e.f6) (showE e) := by
  unfold lockkeeperref24_Show.f
  refine evBind (rcheck_f e) ?_
  cases hok : okE e with
  | false =>
    refine evNeg (by decide) (evEq (Ev.now _) ?_)
    unfold showE
    rw [hok]
    rfl
  | true =>
    obtain ⟨hk, p0, p3, p4, p5, p6⟩ := okE_parts hok
    obtain ⟨w0, w1, w2, w3, w4, w5, w6⟩ := hw
    unfold wfI at w0 w2 w3 w4 w5 w6
    have l0 := num20 p0 (by omega)
    have l1 := num20 w1.1 w1.2
    have l3 := num20 p3 (by omega)
    have l4 := num20 p4 (by omega)
    have l5 := num20 p5 (by omega)
    have l6 := num20 p6 (by omega)
    have l2 := (name_parts hk).2.1
    have z0 : (bsOf (numL e.f0.toNat)).size ≤ 20 := by rw [size_bsOf]; exact l0
    have z1 : (bsOf (numL e.f1.toNat)).size ≤ 20 := by rw [size_bsOf]; exact l1
    have z3 : (bsOf (numL e.f3.toNat)).size ≤ 20 := by rw [size_bsOf]; exact l3
    have z4 : (bsOf (numL e.f4.toNat)).size ≤ 20 := by rw [size_bsOf]; exact l4
    have z5 : (bsOf (numL e.f5.toNat)).size ≤ 20 := by rw [size_bsOf]; exact l5
    have z6 : (bsOf (numL e.f6.toNat)).size ≤ 20 := by rw [size_bsOf]; exact l6
    have hname : lockkeeperref24_Name.f e.f2 = some (nameB e.f2) := by rw [rname_f]; unfold note_Name.f nameB; rw [if_pos hk]
    have sp : ((⟨#[32]⟩ : ByteArray)).size = 1 := rfl
    refine evPos rfl (Ev.bind (rnumI_ev _ p0 w0.2) (evPos (by omega) (Ev.bind (rnum_ev _ w1.1 w1.2) (evPos ?_ (evPos ?_ (evBind hname (evPos ?_ (evPos ?_ (Ev.bind (rnumI_ev _ p3 w3.2) (evPos ?_ (evPos ?_ (Ev.bind (rnumI_ev _ p4 w4.2) (evPos ?_ (evPos ?_ (Ev.bind (rnumI_ev _ p5 w5.2) (evPos ?_ (evPos ?_ (Ev.bind (rnumI_ev _ p6 w6.2) (evPos ?_ (evEq (Ev.now _) ?_))))))))))))))))))))
    all_goals first
      | (simp only [ByteArray.size_append, sp]; omega)
      | skip
    unfold showE
    rw [if_pos hok]
    refine ba_ext ?_
    unfold wordsE
    simp only [append_list, bsOf_data, joinSp_cons, joinSp_one, List.append_assoc]
    rfl
theorem rsplit_l0 (s : ByteArray) (hs : s.size ≤ 100000) : ∀ (r d cur : Bs) (acc : List EvT), s.data.toList = d ++ (cur ++ r) → (10 : UInt8) ∉ cur → acc.length ≤ d.length →
    Ev (fun k => lockkeeperref24_Split.l0 k s acc (d.length : Int) ((d.length + cur.length : Nat) : Int)) (splitV (splitC 10 (cur ++ r)) acc ((acc.length : Int) + 1)) := by
  intro r
  induction r with
  | nil =>
    intro d cur acc hd hc hK
    have hz : s.size = d.length + cur.length := by rw [size_len, hd]; simp
    have e2 : wrap64 ((acc.length : Int) + 1) = (acc.length : Int) + 1 := by unfold wrap64; omega
    rw [List.append_nil, splitC_not _ _ hc, splitV]
    refine evSucc ?_
    simp only [lockkeeperref24_Split.l0, e2]
    refine evNeg (by omega) ?_
    by_cases h : cur = []
    · rw [if_pos h]
      exact evNeg (by rw [h] at hz; simp at hz; omega) (Ev.now _)
    · rw [if_neg h]
      have := List.length_pos_iff.2 h
      exact evPos (by omega) (Ev.now _)
  | cons b r ih =>
    intro d cur acc hd hc hK
    have hz : s.size = d.length + cur.length + (r.length + 1) := by rw [size_len, hd]; simp; omega
    have hb := bt_mid s (d ++ cur) b r (by rw [hd]; simp)
    rw [List.length_append] at hb
    have e3 : wrap64 ((acc.length : Int) + 1) = (acc.length : Int) + 1 := by unfold wrap64; omega
    refine evSucc ?_
    simp only [lockkeeperref24_Split.l0, hb, e3]
    refine evPos (by omega) (evPos (by omega) ?_)
    by_cases h : b = 10
    · subst h
      have hx : s.extract d.length (d.length + cur.length) = bsOf cur := ba_ext (by rw [extract_list, bsOf_data, hd, ← List.append_assoc, ← List.length_append, List.take_left]; simp)
      have e2 : wrap64 (((d.length + cur.length : Nat) : Int) + 1) = ((d.length + cur.length + 1 : Nat) : Int) := by unfold wrap64; omega
      have hcode := read_code (bsOf cur)
      rw [splitC_at 10 cur r hc, e2, Int.toNat_natCast, Int.toNat_natCast, hx]
      refine evPos rfl (evPos (by omega) (evPos (by omega) (evPos (by omega) (Ev.bind (rread_ev (bsOf cur) (by rw [size_bsOf]; omega)) ?_))))
      cases hsr : splitC 10 r with
      | nil => exact absurd hsr (splitC_ne 10 r)
      | cons y ys =>
        rw [splitV]
        by_cases hr : readB (bsOf cur) = true
        · rw [if_pos hr]
          have he : readS (bsOf cur) = toT (evOf cur) := by unfold readS evOf; rw [if_pos hr, bsOf_data]
          have IH := ih (d ++ (cur ++ ([10] : List UInt8))) [] (acc ++ [evOf cur]) (by rw [hd]; simp) (by simp) (by simp; omega)
          have el : (d ++ (cur ++ ([10] : List UInt8))).length = d.length + cur.length + 1 := by simp; omega
          rw [el, List.length_nil, Nat.add_zero, List.nil_append, hsr] at IH
          refine evPos (hcode.2 hr) (evPos (by omega) ?_)
          rw [he]
          refine evEq IH ?_
          congr 1
          simp
        · rw [if_neg hr]
          exact evNeg (fun h => hr (hcode.1 h)) (Ev.now _)
    · have e2 : wrap64 (((d.length + cur.length : Nat) : Int) + 1) = ((d.length + (cur ++ [b]).length : Nat) : Int) := by simp; unfold wrap64; omega
      have IH := ih d (cur ++ [b]) acc (by rw [hd]; simp) (by intro hx; rcases List.mem_append.1 hx with hx | hx; exact hc hx; exact h (List.mem_singleton.1 hx).symm) hK
      rw [List.append_assoc] at IH
      rw [e2]
      exact evNeg (fun e => h (UInt8.toNat_inj.1 (show b.toNat = (10 : UInt8).toNat by rw [show (10 : UInt8).toNat = 10 from rfl]; omega))) IH
theorem rsplit_ev (s : ByteArray) (hs : s.size ≤ 100000) : Ev (fun k => lockkeeperref24_Split.f k s) (splitV (splitC 10 s.data.toList) [] 1) := rsplit_l0 s hs s.data.toList [] [] [] rfl (by simp) (Nat.le_refl _)
end Go.Proofs.YtpkmhepoeefgkaaDoor.Pr
