
/- Plain laws: what NoteJoins leans on, in one text. -/
import Derived.Test.YtpkmhepoeefgkaaDoorG4
import Derived.Test.YtpkmhepoeefgkaaDoorG5
import Derived.Test.YtpkmhepoeefgkaaDoorG9
import Derived.Test.YtpkmhepoeefgkaaDoorG10
import Derived.Test.YtpkmhepoeefgkaaDoorPr7
import Derived.Test.YtpkmhepoeefgkaaDoorPr2
import Derived.Test.YtpkmhepoeefgkaaDoorPr3a
import Derived.Test.YtpkmhepoeefgkaaDoorPr4
import Derived.Test.YtpkmhepoeefgkaaDoorPr9
import Derived.Test.YtpkmhepoeefgkaaDoorPr10
namespace Go.Proofs.YtpkmhepoeefgkaaDoor.Pr
open Go.RowKit Go.Proofs.YtpkmhepoeefgkaaDoorW.PrintWords Go.Proofs.YtpkmhepoeefgkaaDoorW.PrintLast
set_option linter.unusedVariables false
set_option linter.unusedSimpArgs false
abbrev Bs := List UInt8
theorem tl (s : ByteArray) : s.toList = s.data.toList := ByteArray.toList_eq s
theorem ba_ext {a b : ByteArray} (h : a.data.toList = b.data.toList) : a = b := by
  rw [← bsOf_of a, ← bsOf_of b, h]
theorem size_len (s : ByteArray) : s.size = s.data.toList.length := (data_length s).symm
theorem size_bsOf (l : Bs) : (bsOf l).size = l.length := by rw [size_len]; rfl
theorem extract_list (s : ByteArray) (a b : Nat) : (s.extract a b).data.toList = (s.data.toList.take b).drop a := by
  simp [List.drop_take]
theorem append_list (s t : ByteArray) : (s ++ t).data.toList = s.data.toList ++ t.data.toList := by simp
theorem bt_get (s : ByteArray) (i : Nat) (h : i < s.size) : bt s (i : Int) = ((s.data.toList.getD i 0).toNat : Int) := by
  have h' : i < s.data.toList.length := by rw [← size_len]; exact h
  unfold bt
  rw [dif_pos (by simpa using h), List.getD_eq_getElem?_getD, List.getElem?_eq_getElem h']
  simp
  rfl
def longS : Int → List ByteArray → Bool
  | _, [] => false
  | n, s :: r => if (s.size : Int) ≥ n then true else longS (n - s.size - 1) r
theorem long_l0 (r : List ByteArray) : ∀ (p : List ByteArray) (n : Int), 0 ≤ n → n ≤ 4611686018427387904 → (p ++ r).length ≤ 9223372036854775806 → Ev (fun k => lockkeeperlaw0_Long.l0 k n (p ++ r) (p.length : Int)) (longS n r) := by
  induction r with
  | nil =>
    intro p n _ _ _
    refine Ev.step (f := fun _ => some false) (fun k => ?_) (Ev.now _)
    simp only [lockkeeperlaw0_Long.l0]
    rw [if_neg (by simp)]
  | cons s r ih =>
    intro p n h0 hn hl
    have hr : rdOf ByteArray.empty (p ++ s :: r) (p.length : Int) = s := by simp [rdOf, List.getD_eq_getElem?_getD]
    have hlen : (p ++ s :: r).length = p.length + (r.length + 1) := by simp
    by_cases h : (s.size : Int) ≥ n
    · refine Ev.step (f := fun _ => some true) (fun k => ?_) (by rw [longS, if_pos h]; exact Ev.now _)
      simp only [lockkeeperlaw0_Long.l0]
      rw [if_pos (by omega), if_pos (by omega), hr, if_pos h]
    · refine Ev.step (f := fun k => lockkeeperlaw0_Long.l0 k (n - s.size - 1) ((p ++ [s]) ++ r) ((p ++ [s]).length : Int)) (fun k => ?_) ?_
      · simp only [lockkeeperlaw0_Long.l0]
        rw [if_pos (by omega), if_pos (by omega), hr, if_neg h]
        have e1 : wrap64 (wrap64 (n - (s.size : Int)) - 1) = n - s.size - 1 := by unfold wrap64; omega
        have e2 : wrap64 ((p.length : Int) + 1) = ((p ++ [s]).length : Int) := by simp; unfold wrap64; omega
        rw [e1, e2]
        simp
      · rw [longS, if_neg h]
        exact ih (p ++ [s]) _ (by omega) (by omega) (by simpa using hl)
theorem long_ev (n : Int) (l : List ByteArray) (h0 : 0 ≤ n) (hn : n ≤ 4611686018427387904) (hl : l.length ≤ 9223372036854775806) : Ev (fun k => lockkeeperlaw0_Long.f k n l) (longS n l) := by
  have := long_l0 l [] n h0 hn (by simpa using hl)
  simpa [lockkeeperlaw0_Long.f] using this
theorem longS_size : ∀ (l : List ByteArray) (n : Int), longS n l = false → ∀ s ∈ l, (s.size : Int) < n := by
  intro l
  induction l with
  | nil => intro n _ s hs; cases hs
  | cons a r ih =>
    intro n h s hs
    rw [longS] at h
    by_cases ha : (a.size : Int) ≥ n
    · rw [if_pos ha] at h; cases h
    · rw [if_neg ha] at h
      rcases List.mem_cons.1 hs with rfl | hs
      · omega
      · have := ih _ h s hs
        omega
theorem evSucc {α : Type} {g : Nat → Option α} {r : α} (h : Ev (fun k => g (k + 1)) r) : Ev g r := Ev.step (fun _ => rfl) h
theorem evEq {α : Type} {g : Nat → Option α} {r r' : α} (h : Ev g r) (e : r = r') : Ev g r' := e ▸ h
theorem evPos {α : Type} {c : Prop} [Decidable c] {g h : Nat → Option α} {r : α} (hc : c) (hg : Ev g r) : Ev (fun k => if c then g k else h k) r := by
  simp only [if_pos hc]
  exact hg
theorem evNeg {α : Type} {c : Prop} [Decidable c] {g h : Nat → Option α} {r : α} (hc : ¬ c) (hg : Ev h r) : Ev (fun k => if c then g k else h k) r := by
  simp only [if_neg hc]
  exact hg
theorem evBind {α β : Type} {a : Option α} {x : α} {f : Nat → α → Option β} {r : β} (h : a = some x) (k : Ev (fun n => f n x) r) : Ev (fun n => a.bind (f n)) r := by
  subst h
  exact k
theorem evIte {α : Type} {c : Prop} [Decidable c] {g h : Nat → Option α} {r s : α} (hp : c → Ev g r) (hn : ¬ c → Ev h s) : Ev (fun k => if c then g k else h k) (if c then r else s) := by
  by_cases hc : c
  · rw [if_pos hc]; exact evPos hc (hp hc)
  · rw [if_neg hc]; exact evNeg hc (hn hc)
theorem rdOf_get (l : List ByteArray) (i : Nat) (h : i < l.length) : rdOf ByteArray.empty l (i : Int) = l[i] := by
  simp [rdOf, List.getD_eq_getElem?_getD, h]
def isDig (c : UInt8) : Bool := decide ((c.toNat : Int) ≥ 48) && decide ((c.toNat : Int) ≤ 57)
theorem digit_f (c : UInt8) : octet_digit.f (c.toNat : Int) = some (isDig c) := by
  unfold octet_digit.f isDig
  by_cases h : (c.toNat : Int) ≥ 48
  · rw [if_pos h]; simp only [h, decide_true, Bool.true_and]
  · rw [if_neg h]; simp only [h, decide_false, Bool.false_and]
def digStep (n : Int) (c : UInt8) : Int :=
  if n > (18446744073709551615 - (((c.toNat : Int) - 48) % 256)) / 10 then 18446744073709551615 else IntKind.u64.wrap ((IntKind.u64.wrap (n * 10)) + (((c.toNat : Int) - 48) % 256))
def digGo : Int → Bs → Option Int
  | n, [] => some n
  | n, c :: r => if isDig c = true then digGo (digStep n c) r else none
def digS (s : ByteArray) : Int × Bool := match digGo 0 s.data.toList with
  | some n => (n, s.data.toList != [])
  | none => (0, false)
theorem bt_mid (s : ByteArray) (p : Bs) (c : UInt8) (r : Bs) (h : s.data.toList = p ++ c :: r) : bt s (p.length : Int) = (c.toNat : Int) := by
  rw [bt_get s p.length (by rw [size_len, h]; simp), h]
  simp [List.getD_eq_getElem?_getD]
theorem digits_l0 (s : ByteArray) (hs : s.size ≤ 4611686018427387904) (r : Bs) : ∀ (p : Bs) (n : Int), s.data.toList = p ++ r → 
    Ev (fun k => octet_Digits.l0 k s n (s.size : Int) (p.length : Int)) (match digGo n r with | some n => (n, s.data.toList != []) | none => (0, false)) := by
  induction r with
  | nil =>
    intro p n hp
    have hl : s.size = p.length := by rw [size_len, hp]; simp
    refine evSucc ?_
    simp only [octet_Digits.l0]
    refine evNeg (by omega) (evEq (Ev.now _) ?_)
    rw [tl]
    rfl
  | cons c r ih =>
    intro p n hp
    have hl : s.size = p.length + (r.length + 1) := by rw [size_len, hp]; simp
    have hb := bt_mid s p c r hp
    have e2 : wrap64 ((p.length : Int) + 1) = ((p ++ [c]).length : Int) := by simp; unfold wrap64; omega
    refine evSucc ?_
    simp only [octet_Digits.l0, hb, e2]
    refine evPos (by omega) (evPos (by omega) (evPos (by omega) (evBind (digit_f c) ?_)))
    rw [digGo]
    cases hd : isDig c with
    | true =>
      refine evPos rfl ?_
      simp only [if_true]
      by_cases hg : n > (18446744073709551615 - (((c.toNat : Int) - 48) % 256)) / 10
      · refine evPos hg ?_
        have := ih (p ++ [c]) (digStep n c) (by simpa using hp)
        rw [show digStep n c = 18446744073709551615 by unfold digStep; rw [if_pos hg]] at this ⊢
        exact this
      · refine evNeg hg ?_
        have := ih (p ++ [c]) (digStep n c) (by simpa using hp)
        rw [show digStep n c = IntKind.u64.wrap ((IntKind.u64.wrap (n * 10)) + (((c.toNat : Int) - 48) % 256)) by unfold digStep; rw [if_neg hg]] at this ⊢
        exact this
    | false =>
      refine evNeg (by decide) (evEq (Ev.now _) ?_)
      simp
theorem digits_ev (s : ByteArray) (hs : s.size ≤ 4611686018427387904) : Ev (fun k => octet_Digits.f k s) (digS s) := by
  have := digits_l0 s hs s.data.toList [] 0 rfl
  simpa [octet_Digits.f, digS] using this
theorem indexByte_at (p r : Bs) (c : UInt8) (h : c ∉ p) : Lib.indexByte (p ++ c :: r) c = (p.length : Int) := by
  induction p with
  | nil => simp [Lib.indexByte]
  | cons b p ih =>
    have hb : (b == c) = false := by
      simp only [beq_eq_false_iff_ne]
      intro e
      exact h (by simp [e])
    have := ih (fun hc => h (by simp [hc]))
    rw [List.cons_append, Lib.indexByte, hb, this]
    have h2 : (((p.length : Int)) == -1) = false := by
      simp only [beq_eq_false_iff_ne]
      omega
    rw [h2]
    simp
theorem indexByte_not (p : Bs) (c : UInt8) (h : c ∉ p) : Lib.indexByte p c = -1 := by
  induction p with
  | nil => rfl
  | cons b p ih =>
    have hb : (b == c) = false := by
      simp only [beq_eq_false_iff_ne]
      intro e
      exact h (by simp [e])
    have := ih (fun hc => h (by simp [hc]))
    rw [Lib.indexByte, hb, this]
    simp
def numL (n : Nat) : Bs := if h : n > 9 then numL (n / 10) ++ [UInt8.ofNat (48 + n % 10)] else [UInt8.ofNat (48 + n)]
termination_by n
decreasing_by omega
theorem numL_great {n : Nat} (h : n > 9) : numL n = numL (n / 10) ++ [UInt8.ofNat (48 + n % 10)] := by
  rw [numL, dif_pos h]
theorem numL_small {n : Nat} (h : ¬ n > 9) : numL n = [UInt8.ofNat (48 + n)] := by
  rw [numL, dif_neg h]
theorem numL_length : ∀ (k n : Nat), n < 10 ^ (k + 1) → (numL n).length ≤ k + 1 := by
  intro k
  induction k with
  | zero =>
    intro n h
    rw [numL_small (by omega)]
    simp
  | succ k ih =>
    intro n h
    by_cases h9 : n > 9
    · rw [numL_great h9]
      have := ih (n / 10) (by rw [Nat.pow_succ] at h; omega)
      simp
      omega
    · rw [numL_small h9]
      simp
theorem numL_ne (n : Nat) : numL n ≠ [] := by
  by_cases h9 : n > 9
  · rw [numL_great h9]; simp
  · rw [numL_small h9]; simp
def isNum (c : UInt8) : Prop := 48 ≤ c.toNat ∧ c.toNat ≤ 57
theorem num_char (d : Nat) (h : d < 10) : (UInt8.ofNat (48 + d)).toNat = 48 + d := by
  rw [UInt8.toNat_ofNat']
  omega
theorem numL_chars (n : Nat) : ∀ c ∈ numL n, isNum c := by
  induction n using Nat.strongRecOn with
  | _ n ih =>
    intro c hc
    by_cases h9 : n > 9
    · rw [numL_great h9] at hc
      rcases List.mem_append.1 hc with hc | hc
      · exact ih (n / 10) (by omega) c hc
      · rw [List.mem_singleton.1 hc]
        unfold isNum
        rw [num_char _ (by omega)]
        omega
    · rw [numL_small h9] at hc
      rw [List.mem_singleton.1 hc]
      unfold isNum
      rw [num_char _ (by omega)]
      omega
theorem u64_wrap (n : Nat) (h : n < 18446744073709551616) : IntKind.u64.wrap (n : Int) = n := by
  rw [show IntKind.u64.wrap (n : Int) = (n : Int) % 18446744073709551616 by simp [IntKind.wrap, IntKind.bits, IntKind.signed]]
  omega
theorem digGo_append (xs : Bs) (c : UInt8) : ∀ n, digGo n (xs ++ [c]) = (digGo n xs).bind fun v => if isDig c = true then some (digStep v c) else none := by
  induction xs with
  | nil =>
    intro n
    simp [digGo]
  | cons x xs ih =>
    intro n
    rw [List.cons_append, digGo, digGo]
    cases isDig x with
    | true => simpa using ih (digStep n x)
    | false => simp
theorem dig_num (d : Nat) (h : d < 10) : isDig (UInt8.ofNat (48 + d)) = true := by
  unfold isDig
  rw [num_char d h]
  simp
  omega
theorem digStep_num (v d : Nat) (h : d < 10) (hv : v * 10 + d < 18446744073709551616) : digStep (v : Int) (UInt8.ofNat (48 + d)) = ((v * 10 + d : Nat) : Int) := by
  unfold digStep
  rw [num_char d h]
  have e1 : ((((48 + d : Nat) : Int) - 48) % 256) = d := by omega
  rw [e1, if_neg (by omega), show ((v : Int) * 10) = ((v * 10 : Nat) : Int) by omega, u64_wrap _ (by omega), show (((v * 10 : Nat) : Int) + (d : Int)) = ((v * 10 + d : Nat) : Int) by omega, u64_wrap _ (by omega)]
theorem digGo_num (n : Nat) : n < 18446744073709551616 → digGo 0 (numL n) = some (n : Int) := by
  induction n using Nat.strongRecOn with
  | _ n ih =>
    intro hn
    by_cases h9 : n > 9
    · rw [numL_great h9, digGo_append, ih (n / 10) (by omega) (by omega)]
      simp only [Option.bind_some]
      rw [if_pos (dig_num _ (by omega)), digStep_num _ _ (by omega) (by omega)]
      congr 2
      omega
    · rw [numL_small h9, digGo, if_pos (dig_num n (by omega))]
      have := digStep_num 0 n (by omega) (by omega)
      rw [show ((0 : Nat) : Int) = 0 from rfl] at this
      rw [this, digGo]
      congr 2
      omega
theorem digGo_zeros (z : Nat) (l : Bs) : digGo 0 (List.replicate z 48 ++ l) = digGo 0 l := by
  induction z with
  | zero => rfl
  | succ z ih =>
    rw [List.replicate_succ, List.cons_append, digGo, if_pos (by decide), show digStep 0 48 = 0 by decide]
    exact ih
def digL (l : Bs) : Int × Bool := match digGo 0 l with
  | some n => (n, l != [])
  | none => (0, false)
theorem digS_L (s : ByteArray) : digS s = digL s.data.toList := rfl
theorem digL_num (z n : Nat) (hn : n < 18446744073709551616) : digL (List.replicate z 48 ++ numL n) = ((n : Int), true) := by
  unfold digL
  rw [digGo_zeros, digGo_num n hn]
  have : (List.replicate z 48 ++ numL n) ≠ [] := by simp [numL_ne n]
  simp [this, numL_ne n]
def splitC (c : UInt8) : Bs → List Bs
  | [] => [[]]
  | b :: l => if b = c then [] :: splitC c l else match splitC c l with
    | [] => [[b]]
    | x :: xs => (b :: x) :: xs
theorem sp_index_at (p r : Bs) (c : UInt8) (h : c ∉ p) : Lib.indexByte (p ++ c :: r) c = (p.length : Int) := by
  induction p with
  | nil => simp [Lib.indexByte]
  | cons b p ih =>
    have hb : (b == c) = false := by
      simp only [beq_eq_false_iff_ne]
      intro e
      exact h (by simp [e])
    have := ih (fun hc => h (by simp [hc]))
    rw [List.cons_append, Lib.indexByte, hb, this]
    have h2 : (((p.length : Int)) == -1) = false := by
      simp only [beq_eq_false_iff_ne]
      omega
    rw [h2]
    simp
theorem sp_index_not (p : Bs) (c : UInt8) (h : c ∉ p) : Lib.indexByte p c = -1 := by
  induction p with
  | nil => rfl
  | cons b p ih =>
    have hb : (b == c) = false := by
      simp only [beq_eq_false_iff_ne]
      intro e
      exact h (by simp [e])
    have := ih (fun hc => h (by simp [hc]))
    rw [Lib.indexByte, hb, this]
    simp
theorem splitC_not (c : UInt8) (l : Bs) (h : c ∉ l) : splitC c l = [l] := by
  induction l with
  | nil => rfl
  | cons b l ih =>
    have hb : ¬ b = c := fun e => h (by simp [e])
    rw [splitC, if_neg hb, ih (fun hc => h (by simp [hc]))]
theorem splitC_at (c : UInt8) (p r : Bs) (h : c ∉ p) : splitC c (p ++ c :: r) = p :: splitC c r := by
  induction p with
  | nil => rw [List.nil_append, splitC, if_pos rfl]
  | cons b p ih =>
    have hb : ¬ b = c := fun e => h (by simp [e])
    rw [List.cons_append, splitC, if_neg hb, ih (fun hc => h (by simp [hc]))]
theorem splitC_ne (c : UInt8) (l : Bs) : splitC c l ≠ [] := by
  cases l with
  | nil => simp [splitC]
  | cons b l =>
    rw [splitC]
    split
    · simp
    · split <;> simp
theorem splitL_data (c : UInt8) : ∀ (k : Nat) (s : ByteArray), Lib.countB s ⟨#[c]⟩ = k → (Lib.splitB ⟨#[c]⟩ 0 k s).map (·.data.toList) = splitC c s.data.toList := by
  intro k
  induction k with
  | zero =>
    intro s hk
    by_cases hm : c ∈ s.data.toList
    · obtain ⟨p, r, e, hp⟩ := List.eq_append_cons_of_mem hm
      have hix : Lib.indexB s ⟨#[c]⟩ = ((p.length : Nat) : Int) := by
        refine (Lib.index_one _ _).trans ?_
        rw [e]
        exact sp_index_at p r c hp
      have := Lib.countB_hit s ⟨#[c]⟩ p.length (Nat.le_refl 1) hix
      omega
    · rw [splitC_not c _ hm]
      rfl
  | succ k ih =>
    intro s hk
    by_cases hm : c ∈ s.data.toList
    · obtain ⟨p, r, e, hp⟩ := List.eq_append_cons_of_mem hm
      have hix : Lib.indexB s ⟨#[c]⟩ = ((p.length : Nat) : Int) := by
        refine (Lib.index_one _ _).trans ?_
        rw [e]
        exact sp_index_at p r c hp
      have hc := Lib.countB_hit s ⟨#[c]⟩ p.length (Nat.le_refl 1) hix
      rw [Lib.splitB_hit _ _ _ s p.length hix, List.map_cons, ih _ (by omega), e, splitC_at c p r hp]
      have e1 : (s.extract 0 (p.length + 0)).data.toList = p := by
        rw [extract_list, e]
        simp
      have e2 : (s.extract (p.length + (⟨#[c]⟩ : ByteArray).size) s.size).data.toList = r := by
        have hz : s.size = (p ++ c :: r).length := by rw [size_len, e]
        rw [show (⟨#[c]⟩ : ByteArray).size = 1 from rfl, extract_list, e, hz, List.take_length]
        simp
      rw [e1, e2]
    · have hix : Lib.indexB s ⟨#[c]⟩ = -1 := (Lib.index_one _ _).trans (sp_index_not _ c hm)
      rw [Lib.splitB_miss _ _ _ s hix, splitC_not c _ hm]
      rfl
theorem cutS_at (s : ByteArray) (p r : Bs) (c : UInt8) (hs : s.data.toList = p ++ c :: r) (h : c ∉ p) : cutS s ⟨#[c]⟩ = (bsOf p, bsOf r, true) := by
  unfold cutS Lib.cut
  have e : Lib.index s.data.toList (⟨#[c]⟩ : ByteArray).data.toList = (p.length : Int) := by
    rw [hs]
    exact (Lib.index_one _ _).trans (indexByte_at p r c h)
  rw [e, if_pos (by omega), hs]
  simp
theorem cutS_not (s : ByteArray) (c : UInt8) (h : c ∉ s.data.toList) : cutS s ⟨#[c]⟩ = (s, ⟨#[]⟩, false) := by
  unfold cutS Lib.cut
  have e : Lib.index s.data.toList (⟨#[c]⟩ : ByteArray).data.toList = -1 := (Lib.index_one _ _).trans (indexByte_not _ c h)
  rw [e, if_neg (by omega)]
  simp only [bsOf_of]
  rfl
theorem wf_u64 {b : Int} (hb : (Lit.int .u64 b).wf = true) : 0 ≤ b ∧ b ≤ 18446744073709551615 := by
  have h : IntKind.u64.min ≤ b ∧ b ≤ IntKind.u64.max := by simpa [Lit.wf] using hb
  rw [show IntKind.u64.min = 0 from rfl, show IntKind.u64.max = 18446744073709551615 from rfl] at h
  exact h
theorem cut_f (s sep : ByteArray) (hs : s.size < 4294967281) : strings_Cut.f s sep = some (cutS s sep) := by
  unfold strings_Cut.f
  rw [if_pos hs]
theorem split1_f (s : ByteArray) (c : UInt8) (h : s.size < 4294967281) : strings_Split.f s ⟨#[c]⟩ = some (splitL s ⟨#[c]⟩) := by
  unfold strings_Split.f
  rw [if_pos ⟨h, rfl⟩]
theorem splitL_bs (s : ByteArray) (c : UInt8) : splitL s ⟨#[c]⟩ = (splitC c s.data.toList).map bsOf := by
  have := splitL_data c _ s rfl
  have h2 := congrArg (List.map bsOf) this
  rw [List.map_map] at h2
  rw [← h2]
  simp [splitL, Function.comp_def, bsOf_of]
theorem splitC_count (c : UInt8) (l : Bs) : (splitC c l).length ≤ l.length + 1 := by
  induction l with
  | nil => simp [splitC]
  | cons b l ih =>
    rw [splitC]
    split
    · simpa using ih
    · split
      · simp
      · rename_i x xs e; rw [e] at ih; simp at ih ⊢; omega
theorem splitC_mem (c : UInt8) (l : Bs) : ∀ y ∈ splitC c l, (∀ d ∈ y, d ∈ l ∧ d ≠ c) ∧ y.length ≤ l.length := by
  induction l with
  | nil => intro y hy; rw [splitC, List.mem_singleton] at hy; subst hy; exact ⟨by simp, by simp⟩
  | cons b l ih =>
    intro y hy
    rw [splitC] at hy
    by_cases hb : b = c
    · rw [if_pos hb] at hy
      rcases List.mem_cons.1 hy with rfl | hy
      · exact ⟨by simp, by simp⟩
      · have := ih y hy
        exact ⟨fun d hd => ⟨List.mem_cons_of_mem _ (this.1 d hd).1, (this.1 d hd).2⟩, by simp; omega⟩
    · rw [if_neg hb] at hy
      cases h : splitC c l with
      | nil => exact absurd h (splitC_ne c l)
      | cons x xs =>
        rw [h] at hy
        rcases List.mem_cons.1 hy with rfl | hy
        · have := ih x (by rw [h]; simp)
          refine ⟨fun d hd => ?_, by simp; omega⟩
          rcases List.mem_cons.1 hd with rfl | hd
          · exact ⟨by simp, hb⟩
          · exact ⟨List.mem_cons_of_mem _ (this.1 d hd).1, (this.1 d hd).2⟩
        · have := ih y (by rw [h]; simp [hy])
          exact ⟨fun d hd => ⟨List.mem_cons_of_mem _ (this.1 d hd).1, (this.1 d hd).2⟩, by simp; omega⟩
theorem dec_numL (n : Nat) : Lib.decDigits n = numL n := by
  induction n using Nat.strongRecOn with
  | _ n ih =>
    rw [Lib.decDigits, numL]
    by_cases h : n < 10
    · rw [dif_pos h, dif_neg (by omega)]
    · rw [dif_neg h, dif_pos (by omega), ih (n / 10) (by omega)]
theorem itoa_f (n : Nat) (h : n ≤ 9223372036854775807) : strconv_Itoa.f (n : Int) = some (bsOf (numL n)) := by
  unfold strconv_Itoa.f
  rw [if_pos ⟨by omega, by omega⟩]
  unfold Lib.itoa
  rw [if_neg (by omega), Int.toNat_natCast, dec_numL]
abbrev EvT := S24
def wfI (a : Int) : Prop := -9223372036854775808 ≤ a ∧ a ≤ 9223372036854775807
def wfE (e : EvT) : Prop := wfI e.f0 ∧ (0 ≤ e.f1 ∧ e.f1 ≤ 18446744073709551615) ∧ wfI e.f2 ∧ wfI e.f3 ∧ wfI e.f4 ∧ wfI e.f5 ∧ wfI e.f6
def okE (e : EvT) : Bool := evOk e.f0 e.f2 e.f3 e.f4 e.f5 e.f6
def nameB (k : Int) : ByteArray := rdOf ByteArray.empty evNames (k - 1)
def wordsE (e : EvT) : List Bs := [numL e.f0.toNat, numL e.f1.toNat, (nameB e.f2).data.toList, numL e.f3.toNat, numL e.f4.toNat, numL e.f5.toNat, numL e.f6.toNat]
def joinSp (l : List Bs) : Bs := Lib.join l ([32] : List UInt8)
def showE (e : EvT) : ByteArray := if okE e = true then bsOf (joinSp (wordsE e)) else ⟨#[]⟩
theorem wf_int {a : Int} (h : (Lit.int .i64 a).wf = true) : wfI a := by
  have h : IntKind.i64.min ≤ a ∧ a ≤ IntKind.i64.max := by simpa [Lit.wf] using h
  rw [show IntKind.i64.min = -9223372036854775808 from rfl, show IntKind.i64.max = 9223372036854775807 from rfl] at h
  exact h
theorem okE_parts {e : EvT} (h : okE e = true) : (1 ≤ e.f2 ∧ e.f2 ≤ 18) ∧ 0 ≤ e.f0 ∧ 0 ≤ e.f3 ∧ 0 ≤ e.f4 ∧ 0 ≤ e.f5 ∧ 0 ≤ e.f6 := by
  unfold okE evOk at h
  simp only [Bool.and_eq_true, decide_eq_true_eq] at h
  exact ⟨h.1, h.2⟩
theorem joinSp_one (a : Bs) : joinSp [a] = a := by simp [joinSp, Lib.join, List.intercalate, List.intersperse]
theorem joinSp_cons (a b : Bs) (l : List Bs) : joinSp (a :: b :: l) = a ++ 32 :: joinSp (b :: l) := by simp [joinSp, Lib.join, List.intercalate, List.intersperse]
theorem split_joinSp (E : List Bs) (h : E ≠ []) (hE : ∀ s ∈ E, (32 : UInt8) ∉ s) : splitC 32 (joinSp E) = E := by
  induction E with
  | nil => exact absurd rfl h
  | cons a l ih =>
    cases l with
    | nil => rw [joinSp_one, splitC_not _ _ (hE a (by simp))]
    | cons b l => rw [joinSp_cons, splitC_at _ _ _ (hE a (by simp)), ih (by simp) fun x hx => hE x (by simp [hx])]
theorem names_all : ∀ j : Nat, j < 18 → (rdOf ByteArray.empty evNames (j : Int)).data.toList ≠ [] ∧ (rdOf ByteArray.empty evNames (j : Int)).size ≤ 6 ∧ ∀ c ∈ (rdOf ByteArray.empty evNames (j : Int)).data.toList, c.toNat ≥ 97
  | 0, _ | 1, _ | 2, _ | 3, _ | 4, _ | 5, _ | 6, _ | 7, _ | 8, _ | 9, _ | 10, _ | 11, _ | 12, _ | 13, _ | 14, _ | 15, _ | 16, _ | 17, _ => by decide
  | n + 18, h => absurd h (by omega)
theorem name_parts {k : Int} (h : 1 ≤ k ∧ k ≤ 18) : (nameB k).data.toList ≠ [] ∧ (nameB k).size ≤ 6 ∧ ∀ c ∈ (nameB k).data.toList, c.toNat ≥ 97 := by
  obtain ⟨j, hj, rfl⟩ : ∃ j : Nat, j < 18 ∧ k = (j : Int) + 1 := ⟨(k - 1).toNat, by omega, by omega⟩
  have := names_all j hj
  unfold nameB
  rw [show (j : Int) + 1 - 1 = (j : Int) by omega]
  exact this
theorem num_plain32 (n : Nat) (c : UInt8) (hc : c ∈ numL n) : c ≠ 32 ∧ c ≠ 10 := by
  have := numL_chars n c hc
  unfold isNum at this
  exact ⟨fun e => by rw [e, show (32 : UInt8).toNat = 32 from rfl] at this; omega, fun e => by rw [e, show (10 : UInt8).toNat = 10 from rfl] at this; omega⟩
theorem words_plain {e : EvT} (h : okE e = true) : ∀ s ∈ wordsE e, ∀ c ∈ s, c ≠ 32 ∧ c ≠ 10 := by
  obtain ⟨hk, _⟩ := okE_parts h
  have hn := (name_parts hk).2.2
  intro s hs c hc
  simp only [wordsE, List.mem_cons, List.mem_nil_iff, or_false] at hs
  rcases hs with rfl | rfl | rfl | rfl | rfl | rfl | rfl
  · exact num_plain32 _ c hc
  · exact num_plain32 _ c hc
  · have := hn c hc
    exact ⟨fun e => by rw [e, show (32 : UInt8).toNat = 32 from rfl] at this; omega, fun e => by rw [e, show (10 : UInt8).toNat = 10 from rfl] at this; omega⟩
  · exact num_plain32 _ c hc
  · exact num_plain32 _ c hc
  · exact num_plain32 _ c hc
  · exact num_plain32 _ c hc
theorem show_split {e : EvT} (h : okE e = true) : splitC 32 (showE e).data.toList = wordsE e := by
  unfold showE
  rw [if_pos h, bsOf_data, split_joinSp _ (by simp [wordsE]) fun s hs hc => (words_plain h s hs 32 hc).1 rfl]
theorem joinSp_chars (P : UInt8 → Prop) (h32 : P 32) (l : List Bs) (h : ∀ s ∈ l, ∀ c ∈ s, P c) : ∀ c ∈ joinSp l, P c := by
  induction l with
  | nil => intro c hc; simp [joinSp, Lib.join, List.intercalate] at hc
  | cons a l ih =>
    cases l with
    | nil => rw [joinSp_one]; exact h a (by simp)
    | cons b l =>
      intro c hc
      rw [joinSp_cons] at hc
      rcases List.mem_append.1 hc with hc | hc
      · exact h a (by simp) c hc
      · rcases List.mem_cons.1 hc with rfl | hc
        · exact h32
        · exact ih (fun s hs => h s (by simp [hs])) c hc
theorem show_no10 (e : EvT) : (10 : UInt8) ∉ (showE e).data.toList := by
  unfold showE
  by_cases h : okE e = true
  · rw [if_pos h, bsOf_data]
    intro hc
    exact joinSp_chars (fun c => c ≠ 10) (by decide) _ (fun s hs c hc => (words_plain h s hs c hc).2) 10 hc rfl
  · rw [if_neg h]
    simp
theorem num20 {n : Int} (h0 : 0 ≤ n) (h : n ≤ 18446744073709551615) : (numL n.toNat).length ≤ 20 := numL_length 19 n.toNat (by omega)
theorem show_size (e : EvT) (hw : wfE e) : (showE e).size ≤ 200 := by
  unfold showE
  by_cases h : okE e = true
  · rw [if_pos h, size_bsOf]
    obtain ⟨hk, p0, p3, p4, p5, p6⟩ := okE_parts h
    obtain ⟨w0, w1, w2, w3, w4, w5, w6⟩ := hw
    unfold wfI at w0 w2 w3 w4 w5 w6
    have l0 := num20 p0 (by omega)
    have l1 := num20 w1.1 w1.2
    have l3 := num20 p3 (by omega)
    have l4 := num20 p4 (by omega)
    have l5 := num20 p5 (by omega)
    have l6 := num20 p6 (by omega)
    have l2 := (name_parts hk).2.1
    rw [size_len] at l2
    unfold wordsE
    simp only [joinSp_cons, joinSp_one, List.length_append, List.length_cons]
    omega
  · rw [if_neg h]
    exact Nat.zero_le _
theorem joinB_sp (l : List Bs) : joinB (l.map bsOf) (⟨#[32]⟩ : ByteArray) = bsOf (joinSp l) := by
  unfold joinB joinSp
  rw [List.map_map]
  congr 1
  show Lib.join (l.map fun x => (bsOf x).data.toList) ([32] : List UInt8) = _
  simp [bsOf_data]
theorem formatUint_f (n : Int) (h0 : 0 ≤ n) (h1 : n ≤ 18446744073709551615) : strconv_FormatUint.f n 10 = some (bsOf (numL n.toNat)) := by
  unfold strconv_FormatUint.f
  rw [if_pos ⟨h0, h1, rfl⟩, dec_numL]
theorem itoa_i (n : Int) (h0 : 0 ≤ n) (h1 : n ≤ 9223372036854775807) : strconv_Itoa.f n = some (bsOf (numL n.toNat)) := by
  obtain ⟨m, rfl⟩ := Int.eq_ofNat_of_zero_le h0
  exact itoa_f m (by omega)
theorem show_ev (e : EvT) (hw : wfE e) : Ev (fun k => note_Show.f k e.f0 e.f1 e.f2 e.f3 e.f4 e.f5 e.f6) (showE e) := by
  obtain ⟨a, b, c, d, p, q, n⟩ := e
  have hsz := show_size ⟨a, b, c, d, p, q, n⟩ hw
  unfold note_Show.f
  refine evBind (show note_Check.f a b c d p q n = some (okE ⟨a, b, c, d, p, q, n⟩) from rfl) ?_
  by_cases h : okE ⟨a, b, c, d, p, q, n⟩ = true
  · obtain ⟨hk, p0, p3, p4, p5, p6⟩ := okE_parts h
    obtain ⟨w0, w1, w2, w3, w4, w5, w6⟩ := hw
    unfold wfI at w0 w2 w3 w4 w5 w6
    dsimp only at hk p0 p3 p4 p5 p6 w0 w1 w2 w3 w4 w5 w6
    refine evPos h (evBind (itoa_i a p0 w0.2) (evBind (formatUint_f b w1.1 w1.2) (evBind (show note_Name.f c = some (nameB c) by unfold note_Name.f nameB; rw [if_pos hk]) ?_)))
    have hjoin : strings_Join.f ([bsOf (numL a.toNat), bsOf (numL b.toNat), nameB c, bsOf (numL d.toNat), bsOf (numL p.toNat), bsOf (numL q.toNat), bsOf (numL n.toNat)] : List ByteArray) (⟨#[32]⟩ : ByteArray) = some (showE ⟨a, b, c, d, p, q, n⟩) := by
      have e1 : ([bsOf (numL a.toNat), bsOf (numL b.toNat), nameB c, bsOf (numL d.toNat), bsOf (numL p.toNat), bsOf (numL q.toNat), bsOf (numL n.toNat)] : List ByteArray) = (wordsE ⟨a, b, c, d, p, q, n⟩).map bsOf := by
        simp only [wordsE, List.map_cons, List.map_nil, bsOf_of]
      have e2 := joinB_sp (wordsE ⟨a, b, c, d, p, q, n⟩)
      have e3 : showE ⟨a, b, c, d, p, q, n⟩ = bsOf (joinSp (wordsE ⟨a, b, c, d, p, q, n⟩)) := by unfold showE; rw [if_pos h]
      have e4 : (Lib.join (((wordsE ⟨a, b, c, d, p, q, n⟩).map bsOf).map (·.data.toList)) ((⟨#[32]⟩ : ByteArray)).data.toList).length ≤ 200 := by
        have h5 := congrArg (fun s : ByteArray => s.data.toList.length) e2
        rw [e3, size_bsOf] at hsz
        exact Nat.le_trans (Nat.le_of_eq h5) hsz
      rw [e1]
      unfold strings_Join.f
      rw [if_pos ⟨by simp [wordsE], Nat.le_trans e4 (by decide)⟩, e2, e3]
    have fin : Ev (fun k => note_Show.l0 d p q n k ([bsOf (numL a.toNat), bsOf (numL b.toNat), nameB c, bsOf (numL d.toNat), bsOf (numL p.toNat), bsOf (numL q.toNat), bsOf (numL n.toNat)] : List ByteArray) 4) (showE ⟨a, b, c, d, p, q, n⟩) := by
      refine evSucc ?_
      simp only [note_Show.l0]
      exact evNeg (by decide) (evBind hjoin (Ev.now _))
    have step : ∀ (i x : Int) (l : List ByteArray) (r : ByteArray), 0 ≤ i → i < 4 → l.length ≤ 100 → rd ([d, p, q, n] : List Int) i = x → 0 ≤ x → x ≤ 9223372036854775807 → Ev (fun k => note_Show.l0 d p q n k (l ++ [bsOf (numL x.toNat)]) (i + 1)) r → Ev (fun k => note_Show.l0 d p q n k l i) r := by
      intro i x l r hi hi4 hl hx x0 x1 hn
      have e2 : wrap64 (i + 1) = i + 1 := by unfold wrap64; omega
      refine evSucc ?_
      simp only [note_Show.l0, hx, e2]
      exact evPos (by omega) (evPos (by omega) (evBind (itoa_i x x0 x1) (evPos (by omega) hn)))
    exact step 0 d _ _ (by decide) (by decide) (by simp) rfl p3 w3.2 (step 1 p _ _ (by decide) (by decide) (by simp) rfl p4 w4.2 (step 2 q _ _ (by decide) (by decide) (by simp) rfl p5 w5.2 (step 3 n _ _ (by decide) (by decide) (by simp) rfl p6 w6.2 fin)))
  · refine evNeg h (evEq (Ev.now _) ?_)
    unfold showE
    rw [if_neg h]
def numberV (s : Bs) : Int := if (digS (bsOf s)).2 = true then (if (digS (bsOf s)).1 > 9223372036854775807 then -1 else (digS (bsOf s)).1) else -1
def kindV (s : Bs) : Int := match evNames.findIdx? (fun n => n.data.toList == s) with
  | some j => (j : Int) + 1
  | none => 0
abbrev ET := Int × Int × Int × Int × Int × Int × Int × Int
def noE : ET := (0, 0, 0, 0, 0, 0, 0, 3)
def toT (e : EvT) : ET := (e.f0, e.f1, e.f2, e.f3, e.f4, e.f5, e.f6, 0)
def ofW : List Bs → EvT
  | [w0, w1, w2, w3, w4, w5, w6] => ⟨numberV w0, (digS (bsOf w1)).1, kindV w2, numberV w3, numberV w4, numberV w5, numberV w6⟩
  | _ => ⟨0, 0, 0, 0, 0, 0, 0⟩
def readB (s : ByteArray) : Bool := (splitC 32 s.data.toList).length == 7 && (showE (ofW (splitC 32 s.data.toList))).data.toList == s.data.toList
def readS (s : ByteArray) : ET := if readB s = true then toT (ofW (splitC 32 s.data.toList)) else noE
theorem digGo_range (l : Bs) : ∀ n v, 0 ≤ n → n ≤ 18446744073709551615 → digGo n l = some v → 0 ≤ v ∧ v ≤ 18446744073709551615 := by
  induction l with
  | nil => intro n v h0 h1 h; rw [digGo] at h; injection h with h; omega
  | cons c l ih =>
    intro n v h0 h1 h
    rw [digGo] at h
    split at h
    · refine ih _ v ?_ ?_ h
      · unfold digStep
        split
        · omega
        · rw [show ∀ x : Int, IntKind.u64.wrap x = x % 18446744073709551616 from fun x => by simp [IntKind.wrap, IntKind.bits, IntKind.signed]]
          omega
      · unfold digStep
        split
        · omega
        · rw [show ∀ x : Int, IntKind.u64.wrap x = x % 18446744073709551616 from fun x => by simp [IntKind.wrap, IntKind.bits, IntKind.signed]]
          omega
    · cases h
theorem digS_range (s : ByteArray) : 0 ≤ (digS s).1 ∧ (digS s).1 ≤ 18446744073709551615 := by
  unfold digS
  cases h : digGo 0 s.data.toList with
  | none => simp
  | some v => exact digGo_range _ 0 v (by omega) (by omega) h
theorem numberV_range (s : Bs) : -1 ≤ numberV s ∧ numberV s ≤ 9223372036854775807 := by
  have := digS_range (bsOf s)
  unfold numberV
  split
  · split <;> omega
  · omega
theorem kindV_range (s : Bs) : 0 ≤ kindV s ∧ kindV s ≤ 18 := by
  unfold kindV
  split
  · rename_i j h
    have := (List.findIdx?_eq_some_iff_getElem.1 h).1
    have e : evNames.length = 18 := rfl
    omega
  · omega
theorem ofW_wf (l : List Bs) : wfE (ofW l) := by
  unfold ofW
  split
  · rename_i w0 w1 w2 w3 w4 w5 w6
    have h0 := numberV_range w0
    have h1 := digS_range (bsOf w1)
    have h2 := kindV_range w2
    have h3 := numberV_range w3
    have h4 := numberV_range w4
    have h5 := numberV_range w5
    have h6 := numberV_range w6
    unfold wfE wfI
    dsimp only
    omega
  · unfold wfE wfI
    dsimp only
    omega
theorem number_ev (s : ByteArray) (hs : s.size ≤ 4611686018427387904) : Ev (fun k => note_number.f k s) (numberV s.data.toList) := by
  have hr := digS_range s
  unfold note_number.f numberV
  rw [bsOf_of]
  refine Ev.bind (digits_ev s hs) (evIte (fun _ => evIte (fun _ => Ev.now _) fun h => evEq (Ev.now _) ?_) fun _ => Ev.now _)
  unfold wrap64
  omega
theorem kind_l0 (s : ByteArray) : ∀ (n i : Nat), i + n = 18 → (∀ j : Nat, j < i → (rdOf ByteArray.empty evNames (j : Int)).data.toList ≠ s.data.toList) → Ev (fun k => note_kind.l0 k s ((i : Int) + 1)) (kindV s.data.toList) := by
  have hlen : evNames.length = 18 := rfl
  intro n
  induction n with
  | zero =>
    intro i hi hno
    refine evSucc ?_
    simp only [note_kind.l0]
    refine evNeg (by omega) (evEq (Ev.now _) ?_)
    unfold kindV
    have : evNames.findIdx? (fun n => n.data.toList == s.data.toList) = none := by
      rw [List.findIdx?_eq_none_iff]
      intro x hx
      obtain ⟨j, hj, rfl⟩ := List.mem_iff_getElem.1 hx
      have := hno j (by omega)
      rw [rdOf_get _ _ hj] at this
      simpa using this
    rw [this]
  | succ n ih =>
    intro i hi hno
    have hlt : i < evNames.length := by omega
    have e2 : wrap64 ((i : Int) + 1 + 1) = ((i + 1 : Nat) : Int) + 1 := by unfold wrap64; omega
    have hname : note_Name.f ((i : Int) + 1) = some (rdOf ByteArray.empty evNames (i : Int)) := by
      unfold note_Name.f
      rw [if_pos (by omega), show (i : Int) + 1 - 1 = (i : Int) by omega]
    refine evSucc ?_
    simp only [note_kind.l0, e2]
    refine evPos (by omega) (evBind hname ?_)
    rw [tl, tl]
    by_cases h : (rdOf ByteArray.empty evNames (i : Int)).data.toList = s.data.toList
    · refine evPos h (evEq (Ev.now _) ?_)
      unfold kindV
      have : evNames.findIdx? (fun n => n.data.toList == s.data.toList) = some i := by
        rw [List.findIdx?_eq_some_iff_getElem]
        refine ⟨hlt, by rw [← rdOf_get _ _ hlt]; simpa using h, fun j hj => ?_⟩
        have := hno j hj
        rw [rdOf_get _ _ (by omega)] at this
        simpa using this
      rw [this]
    · refine evNeg h (ih (i + 1) (by omega) fun j hj => ?_)
      by_cases e : j = i
      · rw [e]; exact h
      · exact hno j (by omega)
theorem kind_ev (s : ByteArray) : Ev (fun k => note_kind.f k s) (kindV s.data.toList) := kind_l0 s 18 0 (by omega) fun j hj => absurd hj (Nat.not_lt_zero _)
theorem seven {l : List Bs} (h : l.length = 7) : ∃ w0 w1 w2 w3 w4 w5 w6, l = [w0, w1, w2, w3, w4, w5, w6] := by
  match l, h with
  | [w0, w1, w2, w3, w4, w5, w6], _ => exact ⟨w0, w1, w2, w3, w4, w5, w6, rfl⟩
theorem read_ev (s : ByteArray) (hs : s.size ≤ 4000000000) : Ev (fun k => note_Read.f k s) (readS s) := by
  have hlen := size_len s
  unfold note_Read.f
  refine evBind (split1_f s 32 (by omega)) ?_
  rw [splitL_bs]
  by_cases h7 : (splitC 32 s.data.toList).length = 7
  · obtain ⟨w0, w1, w2, w3, w4, w5, w6, hw⟩ := seven h7
    have hm := splitC_mem 32 s.data.toList
    rw [hw] at hm
    have z : ∀ y, y ∈ [w0, w1, w2, w3, w4, w5, w6] → (bsOf y).size ≤ 4611686018427387904 := fun y hy => by
      have := (hm y hy).2
      rw [size_bsOf]
      omega
    have hne : s.data.toList ≠ [] := fun e => by rw [e] at hw; cases hw
    have hwf := ofW_wf [w0, w1, w2, w3, w4, w5, w6]
    have hsh := show_ev (ofW [w0, w1, w2, w3, w4, w5, w6]) hwf
    have n0 := number_ev (bsOf w0) (z w0 (by simp))
    have n3 := number_ev (bsOf w3) (z w3 (by simp))
    have n4 := number_ev (bsOf w4) (z w4 (by simp))
    have n5 := number_ev (bsOf w5) (z w5 (by simp))
    have n6 := number_ev (bsOf w6) (z w6 (by simp))
    have k2 := kind_ev (bsOf w2)
    rw [bsOf_data] at n0 n3 n4 n5 n6 k2
    unfold readS readB
    rw [hw]
    simp only [List.map_cons, List.map_nil, List.length_cons, List.length_nil]
    refine evPos (by decide) (evPos (by decide) (Ev.bind (digits_ev (bsOf w1) (z w1 (by simp))) (evPos (by decide) (Ev.bind n0 (evPos (by decide) (Ev.bind k2 (evPos (by decide) (Ev.bind n3 (evPos (by decide) (Ev.bind n4 (evPos (by decide) (Ev.bind n5 (evPos (by decide) (Ev.bind n6 (evNeg (by rw [tl]; exact hne) (Ev.bind hsh ?_))))))))))))))))
    rw [tl, tl]
    by_cases he : (showE (ofW [w0, w1, w2, w3, w4, w5, w6])).data.toList = s.data.toList
    · refine evPos he (evEq (Ev.now _) ?_)
      rw [if_pos (by simpa using he)]
      rfl
    · refine evNeg he (evEq (Ev.now _) ?_)
      rw [if_neg (by simpa using he)]
      rfl
  · refine evNeg (by rw [List.length_map]; omega) (evEq (Ev.now _) ?_)
    unfold readS readB
    rw [if_neg (by simp [h7])]
    rfl
theorem number_num (n : Int) (h0 : 0 ≤ n) (h1 : n ≤ 9223372036854775807) : numberV (numL n.toNat) = n := by
  have hd : digS (bsOf (numL n.toNat)) = (n, true) := by
    have := digL_num 0 n.toNat (by omega)
    rw [List.replicate_zero, List.nil_append] at this
    rw [digS_L, bsOf_data, this]
    congr 1
    omega
  unfold numberV
  rw [hd, if_pos rfl, if_neg (by dsimp only; omega)]
theorem digS_num (n : Int) (h0 : 0 ≤ n) (h1 : n ≤ 18446744073709551615) : (digS (bsOf (numL n.toNat))).1 = n := by
  have := digL_num 0 n.toNat (by omega)
  rw [List.replicate_zero, List.nil_append] at this
  rw [digS_L, bsOf_data, this]
  dsimp only
  omega
theorem kind_names : ∀ j : Nat, j < 18 → kindV (rdOf ByteArray.empty evNames (j : Int)).data.toList = (j : Int) + 1
  | 0, _ | 1, _ | 2, _ | 3, _ | 4, _ | 5, _ | 6, _ | 7, _ | 8, _ | 9, _ | 10, _ | 11, _ | 12, _ | 13, _ | 14, _ | 15, _ | 16, _ | 17, _ => by decide
  | n + 18, h => absurd h (by omega)
theorem kind_name {k : Int} (h : 1 ≤ k ∧ k ≤ 18) : kindV (nameB k).data.toList = k := by
  obtain ⟨j, hj, rfl⟩ : ∃ j : Nat, j < 18 ∧ k = (j : Int) + 1 := ⟨(k - 1).toNat, by omega, by omega⟩
  have := kind_names j hj
  unfold nameB
  rw [show (j : Int) + 1 - 1 = (j : Int) by omega]
  exact this
theorem ofW_words {e : EvT} (hw : wfE e) (h : okE e = true) : ofW (wordsE e) = e := by
  obtain ⟨hk, p0, p3, p4, p5, p6⟩ := okE_parts h
  obtain ⟨w0, w1, w2, w3, w4, w5, w6⟩ := hw
  unfold wfI at w0 w2 w3 w4 w5 w6
  unfold wordsE ofW
  dsimp only
  rw [number_num _ p0 w0.2, digS_num _ w1.1 w1.2, kind_name hk, number_num _ p3 w3.2, number_num _ p4 w4.2, number_num _ p5 w5.2, number_num _ p6 w6.2]
theorem read_show {e : EvT} (hw : wfE e) (h : okE e = true) : readS (showE e) = toT e := by
  unfold readS readB
  rw [show_split h, ofW_words hw h, if_pos (by simp [wordsE])]
theorem readS_cases (s : ByteArray) : (readB s = false ∧ readS s = noE) ∨ (readB s = true ∧ readS s = toT (ofW (splitC 32 s.data.toList)) ∧ showE (ofW (splitC 32 s.data.toList)) = s ∧ okE (ofW (splitC 32 s.data.toList)) = true ∧ wfE (ofW (splitC 32 s.data.toList))) := by
  cases h : readB s with
  | false => exact .inl ⟨rfl, by unfold readS; rw [h]; rfl⟩
  | true =>
    have h' := h
    unfold readB at h
    simp only [Bool.and_eq_true, beq_iff_eq] at h
    refine .inr ⟨rfl, by unfold readS; rw [h']; rfl, ba_ext h.2, ?_, ofW_wf _⟩
    cases hk : okE (ofW (splitC 32 s.data.toList)) with
    | true => rfl
    | false =>
      exfalso
      have h2 := h.2
      unfold showE at h2
      rw [hk] at h2
      have h1 := h.1
      rw [← h2] at h1
      cases h1
theorem readB_show {e : EvT} (hw : wfE e) (h : okE e = true) : readB (showE e) = true := by
  rcases readS_cases (showE e) with ⟨_, h2⟩ | ⟨h1, _⟩
  · rw [read_show hw h] at h2
    have := congrArg (fun t : ET => t.2.2.2.2.2.2.2) h2
    cases this
  · exact h1
theorem awake24 : ∃ k, lockkeeperlaw24_awake.f k = some true := ⟨60, by decide +kernel⟩
theorem awake24_ev : Ev (fun k => lockkeeperlaw24_awake.f k) true := Ev.of lockkeeperlaw24_awake.mono awake24.choose_spec
theorem events_same (l : List EvT) (hl : l.length ≤ 1000000000) : Ev (fun k => lockkeeperlaw0_Events.f k l l) true := by
  have key : ∀ n i : Nat, i + n = l.length → Ev (fun k => lockkeeperlaw0_Events.l0 k l l (i : Int)) true := by
    intro n
    induction n with
    | zero =>
      intro i hi
      refine evSucc ?_
      simp only [lockkeeperlaw0_Events.l0]
      exact evNeg (by omega) (Ev.now _)
    | succ n ih =>
      intro i hi
      have e2 : wrap64 ((i : Int) + 1) = ((i + 1 : Nat) : Int) := by unfold wrap64; omega
      refine evSucc ?_
      simp only [lockkeeperlaw0_Events.l0, e2]
      exact evPos (by omega) (evPos (by omega) (evPos (by omega) (evNeg (by simp) (ih (i + 1) (by omega)))))
  unfold lockkeeperlaw0_Events.f
  exact evPos rfl (key l.length 0 (by omega))
def showL (e : EvT) : Bs := (showE e).data.toList
theorem showL_no10 (e : EvT) : (10 : UInt8) ∉ showL e := show_no10 e
def linesT (l : List EvT) : Bs := (l.map fun e => showL e ++ ([10] : List UInt8)).flatten
theorem linesT_cons (e : EvT) (l : List EvT) : linesT (e :: l) = showL e ++ 10 :: linesT l := by simp [linesT]
theorem linesT_length (l : List EvT) (hw : ∀ e ∈ l, wfE e) : (linesT l).length ≤ 201 * l.length := by
  induction l with
  | nil => simp [linesT]
  | cons e l ih =>
    have h1 := show_size e (hw e (by simp))
    have h2 := ih fun x hx => hw x (by simp [hx])
    rw [size_len] at h1
    rw [linesT_cons, List.length_append, List.length_cons, List.length_cons]
    unfold showL
    omega
theorem split_lines (l : List EvT) (t : Bs) : splitC 10 (linesT l ++ t) = l.map showL ++ splitC 10 t := by
  induction l with
  | nil => rfl
  | cons e l ih =>
    rw [linesT_cons, List.append_assoc, List.cons_append, splitC_at _ _ _ (showL_no10 e), ih]
    rfl
theorem lines_go (l : List EvT) (hw : ∀ e ∈ l, wfE e) : ∀ acc : ByteArray, acc.size + 201 * l.length ≤ 100000000 → Ev (fun k => linesGo k l acc) (if l.all okE = true then (acc ++ bsOf (linesT l), 0) else (⟨#[]⟩, 2)) := by
  induction l with
  | nil =>
    intro acc _
    refine evEq (Ev.now (acc, 0)) ?_
    rw [List.all_nil, if_pos rfl]
    have : acc ++ bsOf (linesT []) = acc := ba_ext (by rw [append_list, bsOf_data]; simp [linesT])
    rw [this]
  | cons e l ih =>
    intro acc hz
    have h1 := show_size e (hw e (by simp))
    rw [List.length_cons] at hz
    have z1 : (acc ++ (showE e ++ (⟨#[10]⟩ : ByteArray))).size = acc.size + ((showE e).size + 1) := by rw [ByteArray.size_append, ByteArray.size_append]; rfl
    simp only [linesGo]
    rw [List.all_cons]
    show Ev (fun k => if okE e = true then _ else _) _
    cases hk : okE e with
    | true =>
      rw [Bool.true_and]
      refine evPos rfl (Ev.bind (show_ev e (hw e (by simp))) (evPos (by omega) (evEq (ih (fun x hx => hw x (by simp [hx])) _ (by omega)) ?_)))
      have e3 : acc ++ (showE e ++ (⟨#[10]⟩ : ByteArray)) ++ bsOf (linesT l) = acc ++ bsOf (linesT (e :: l)) := ba_ext (by
        rw [append_list, append_list, append_list, append_list, bsOf_data, bsOf_data, linesT_cons]
        show (acc.data.toList ++ (showL e ++ [10])) ++ linesT l = _
        simp)
      rw [e3]
    | false =>
      rw [Bool.false_and]
      exact evNeg (by decide) (Ev.now _)
theorem lines_ev (l : List EvT) (hl : l.length ≤ 1000) (hw : ∀ e ∈ l, wfE e) : Ev (fun k => note_Lines.f k l) (if l.all okE = true then (bsOf (linesT l), 0) else (⟨#[]⟩, 2)) := by
  unfold note_Lines.f
  refine evPos (by omega) (evEq (lines_go l hw ⟨#[]⟩ (by rw [show (⟨#[]⟩ : ByteArray).size = 0 from rfl]; omega)) ?_)
  have : (⟨#[]⟩ : ByteArray) ++ bsOf (linesT l) = bsOf (linesT l) := ba_ext (by rw [append_list]; rfl)
  rw [this]
abbrev ST := List EvT × Int × Int
def evOf (x : Bs) : EvT := ofW (splitC 32 x)
def splitV : List Bs → List EvT → Int → ST
  | [], acc, _ => (acc, 0, 0)
  | [x], acc, n => if x = [] then (acc, 0, 0) else ([], n, 3)
  | x :: y :: r, acc, n => if readB (bsOf x) = true then splitV (y :: r) (acc ++ [evOf x]) (n + 1) else ([], n, 3)
def joinN (l : List Bs) : Bs := Lib.join l ([10] : List UInt8)
theorem joinN_one (a : Bs) : joinN [a] = a := by simp [joinN, Lib.join, List.intercalate, List.intersperse]
theorem joinN_cons (a b : Bs) (l : List Bs) : joinN (a :: b :: l) = a ++ 10 :: joinN (b :: l) := by simp [joinN, Lib.join, List.intercalate, List.intersperse]
theorem joinN_split (l : Bs) : joinN (splitC 10 l) = l := by
  induction l with
  | nil => exact joinN_one []
  | cons b l ih =>
    rw [splitC]
    by_cases h : b = 10
    · subst h
      rw [if_pos rfl]
      cases hs : splitC 10 l with
      | nil => exact absurd hs (splitC_ne 10 l)
      | cons x xs => rw [joinN_cons, ← hs, ih]; rfl
    · rw [if_neg h]
      cases hs : splitC 10 l with
      | nil => exact absurd hs (splitC_ne 10 l)
      | cons x xs =>
        rw [hs] at ih
        cases xs with
        | nil => rw [joinN_one] at ih ⊢; rw [ih]
        | cons y ys => rw [joinN_cons] at ih ⊢; rw [List.cons_append, ih]
theorem read_code (s : ByteArray) : (readS s).2.2.2.2.2.2.2 = 0 ↔ readB s = true := by
  unfold readS
  cases h : readB s with
  | true => rw [if_pos rfl]; exact ⟨fun _ => rfl, fun _ => rfl⟩
  | false => rw [if_neg (by decide)]; simp [noE]
theorem split_l0 : ∀ (L : List Bs), L ≠ [] → (∀ s ∈ L, (10 : UInt8) ∉ s) → ∀ (acc : List EvT) (n : Int), (joinN L).length ≤ 1000000 → acc.length + L.length ≤ 2000000 → 0 ≤ n → n + L.length ≤ 4000000 →
    Ev (fun k => note_Split.l0 k (bsOf (joinN L)) acc n) (splitV L acc n) := by
  intro L
  induction L with
  | nil => intro h; exact absurd rfl h
  | cons x L ih =>
    intro _ hno acc n hz ha h0 hn
    have hx := hno x (by simp)
    cases L with
    | nil =>
      rw [joinN_one] at hz ⊢
      rw [splitV]
      refine evSucc ?_
      simp only [note_Split.l0, tl, bsOf_data]
      by_cases h : x = []
      · rw [if_pos h]
        exact evPos h (Ev.now _)
      · rw [if_neg h]
        have hc : strings_Cut.f (bsOf x) (⟨#[10]⟩ : ByteArray) = some (bsOf x, ⟨#[]⟩, false) := by
          rw [cut_f _ _ (by rw [size_bsOf]; omega), cutS_not _ 10 (by rw [bsOf_data]; exact hx)]
        exact evNeg h (evBind hc (Ev.bind (read_ev (bsOf x) (by rw [size_bsOf]; omega)) (evNeg (by simp) (Ev.now _))))
    | cons y r =>
      rw [joinN_cons] at hz ⊢
      rw [splitV]
      have hlen : (x ++ 10 :: joinN (y :: r)).length = x.length + (1 + (joinN (y :: r)).length) := by rw [List.length_append, List.length_cons]; omega
      have hc : strings_Cut.f (bsOf (x ++ 10 :: joinN (y :: r))) (⟨#[10]⟩ : ByteArray) = some (bsOf x, bsOf (joinN (y :: r)), true) := by
        rw [cut_f _ _ (by rw [size_bsOf]; omega), cutS_at _ x (joinN (y :: r)) 10 (bsOf_data _) hx]
      have e2 : wrap64 (n + 1) = n + 1 := by unfold wrap64; omega
      simp only [List.length_cons] at ha hn
      have hcode := read_code (bsOf x)
      refine evSucc ?_
      simp only [note_Split.l0, tl, bsOf_data, e2]
      refine evNeg (by simp) (evBind hc (Ev.bind (read_ev (bsOf x) (by rw [size_bsOf]; omega)) (evPos rfl ?_)))
      by_cases hr : readB (bsOf x) = true
      · rw [if_pos hr]
        refine evPos (hcode.2 hr) (evPos (by omega) ?_)
        have he : readS (bsOf x) = toT (evOf x) := by unfold readS evOf; rw [if_pos hr, bsOf_data]
        rw [he]
        refine ih (by simp) (fun s hs => hno s (by simp [hs])) (acc ++ [evOf x]) (n + 1) (by omega) (by simp; omega) (by omega) (by simp only [List.length_cons]; omega)
      · rw [if_neg hr]
        exact evNeg (fun h => hr (hcode.1 h)) (Ev.now _)
theorem split_ev (s : ByteArray) (hs : s.size ≤ 1000000) : Ev (fun k => note_Split.f k s) (splitV (splitC 10 s.data.toList) [] 1) := by
  have hc := splitC_count 10 s.data.toList
  have hz := size_len s
  have := split_l0 (splitC 10 s.data.toList) (splitC_ne _ _) (fun y hy h => ((splitC_mem 10 _ y hy).1 _ h).2 rfl) [] 1 (by rw [joinN_split]; omega) (by simp; omega) (by omega) (by omega)
  rw [joinN_split, bsOf_of] at this
  unfold note_Split.f
  exact this
theorem evOf_show {e : EvT} (hw : wfE e) (h : okE e = true) : evOf (showL e) = e := by
  unfold evOf showL
  rw [show_split h, ofW_words hw h]
theorem splitV_shows (es : List EvT) (hw : ∀ e ∈ es, wfE e) (ho : ∀ e ∈ es, okE e = true) (T : List Bs) (hT : T ≠ []) : ∀ (acc : List EvT) (n : Int), splitV (es.map showL ++ T) acc n = splitV T (acc ++ es) (n + es.length) := by
  induction es with
  | nil => intro acc n; simp
  | cons e es ih =>
    intro acc n
    have h1 := hw e (by simp)
    have h2 := ho e (by simp)
    have hr : readB (bsOf (showL e)) = true := by unfold showL; rw [bsOf_of]; exact readB_show h1 h2
    have hne : es.map showL ++ T ≠ [] := by simp [hT]
    have IH := ih (fun x hx => hw x (by simp [hx])) (fun x hx => ho x (by simp [hx])) (acc ++ [e]) (n + 1)
    rw [List.map_cons, List.cons_append]
    cases hc : es.map showL ++ T with
    | nil => exact absurd hc hne
    | cons y r =>
      rw [splitV, if_pos hr, evOf_show h1 h2, ← hc, IH, List.append_assoc, List.length_cons]
      congr 1
      omega
theorem splitV_shift (T : List Bs) : ∀ (acc acc' : List EvT) (n n' : Int), (∃ a, splitV T acc n = (acc ++ a, 0, 0) ∧ splitV T acc' n' = (acc' ++ a, 0, 0)) ∨ (∃ d : Int, splitV T acc n = ([], n + d, 3) ∧ splitV T acc' n' = ([], n' + d, 3) ∧ 0 ≤ d ∧ d ≤ T.length) := by
  induction T with
  | nil => intro acc acc' n n'; exact .inl ⟨[], by simp [splitV], by simp [splitV]⟩
  | cons x T ih =>
    intro acc acc' n n'
    cases T with
    | nil =>
      by_cases h : x = []
      · exact .inl ⟨[], by simp [splitV, h], by simp [splitV, h]⟩
      · exact .inr ⟨0, by simp [splitV, h], by simp [splitV, h], by omega, by simp⟩
    | cons y r =>
      by_cases h : readB (bsOf x) = true
      · rcases ih (acc ++ [evOf x]) (acc' ++ [evOf x]) (n + 1) (n' + 1) with ⟨a, h1, h2⟩ | ⟨d, h1, h2, h3, h4⟩
        · refine .inl ⟨evOf x :: a, ?_, ?_⟩
          · rw [splitV, if_pos h, h1]; simp
          · rw [splitV, if_pos h, h2]; simp
        · refine .inr ⟨d + 1, ?_, ?_, by omega, by simp only [List.length_cons] at h4 ⊢; omega⟩
          · rw [splitV, if_pos h, h1]; congr 2; omega
          · rw [splitV, if_pos h, h2]; congr 2; omega
      · exact .inr ⟨0, by rw [splitV, if_neg h]; simp, by rw [splitV, if_neg h]; simp, by omega, by simp only [List.length_cons]; omega⟩
end Go.Proofs.YtpkmhepoeefgkaaDoor.Pr
