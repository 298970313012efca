/- Plain laws of numbers in texts: what ref1.Num writes, octet.Digits reads; strings.Cut at one byte; safe.Range. -/
import Derived.Test.YtojcceafgkdchaaP5
import Derived.Test.YtojcceafgkdchaaPr10
namespace Go.Proofs.Ytojcceafgkdchaa.Pr
open Go.RowKit Go.Proofs.YtojcceafgkdchaaW.PrintWords Go.Proofs.YtojcceafgkdchaaW.PrintLast
set_option linter.unusedVariables false
set_option linter.unusedSimpArgs false

/-! ### the text of a number -/
def numL (n : Nat) : Bs := if h : n > 9 then numL (n / 10) ++ [UInt8.ofNat (48 + n % 10)] else [UInt8.ofNat (48 + n)]
termination_by n
decreasing_by omega
theorem numL_great {n : Nat} (h : n > 9) : numL n = numL (n / 10) ++ [UInt8.ofNat (48 + n % 10)] := by
  rw [numL, dif_pos h]
theorem numL_small {n : Nat} (h : ¬ n > 9) : numL n = [UInt8.ofNat (48 + n)] := by
  rw [numL, dif_neg h]
theorem numL_length : ∀ (k n : Nat), n < 10 ^ (k + 1) → (numL n).length ≤ k + 1 := by
  intro k
  induction k with
  | zero =>
    intro n h
    rw [numL_small (by omega)]
    simp
  | succ k ih =>
    intro n h
    by_cases h9 : n > 9
    · rw [numL_great h9]
      have := ih (n / 10) (by rw [Nat.pow_succ] at h; omega)
      simp
      omega
    · rw [numL_small h9]
      simp
theorem numL_ne (n : Nat) : numL n ≠ [] := by
  by_cases h9 : n > 9
  · rw [numL_great h9]; simp
  · rw [numL_small h9]; simp
def isNum (c : UInt8) : Prop := 48 ≤ c.toNat ∧ c.toNat ≤ 57
theorem num_char (d : Nat) (h : d < 10) : (UInt8.ofNat (48 + d)).toNat = 48 + d := by
  rw [UInt8.toNat_ofNat']
  omega
theorem numL_chars (n : Nat) : ∀ c ∈ numL n, isNum c := by
  induction n using Nat.strongRecOn with
  | _ n ih =>
    intro c hc
    by_cases h9 : n > 9
    · rw [numL_great h9] at hc
      rcases List.mem_append.1 hc with hc | hc
      · exact ih (n / 10) (by omega) c hc
      · rw [List.mem_singleton.1 hc]
        unfold isNum
        rw [num_char _ (by omega)]
        omega
    · rw [numL_small h9] at hc
      rw [List.mem_singleton.1 hc]
      unfold isNum
      rw [num_char _ (by omega)]
      omega
theorem ten_piece (d : Nat) (h : d < 10) : ((⟨#[48, 49, 50, 51, 52, 53, 54, 55, 56, 57]⟩ : ByteArray)).extract d (d + 1) = bsOf [UInt8.ofNat (48 + d)] := by
  have : ∀ e : Fin 10, (((⟨#[48, 49, 50, 51, 52, 53, 54, 55, 56, 57]⟩ : ByteArray)).extract e.val (e.val + 1)).data.toList = [UInt8.ofNat (48 + e.val)] := by decide +kernel
  exact ba_ext (this ⟨d, h⟩)
theorem u64_wrap (n : Nat) (h : n < 18446744073709551616) : IntKind.u64.wrap (n : Int) = n := by
  rw [show IntKind.u64.wrap (n : Int) = (n : Int) % 18446744073709551616 by simp [IntKind.wrap, IntKind.bits, IntKind.signed]]
  omega
theorem num_l0 (n : Nat) : ∀ x : ByteArray, n < 18446744073709551616 → x.size + (numL n).length ≤ 9223372036854775807 → Ev (fun k => lockkeeperref1_Num.l0 k (n : Int) x) (bsOf (numL n ++ x.data.toList)) := by
  induction n using Nat.strongRecOn with
  | _ n ih =>
    intro x hn hx
    have piece : ∀ d : Nat, d < 10 → ((⟨#[48, 49, 50, 51, 52, 53, 54, 55, 56, 57]⟩ : ByteArray)).extract ((d : Int)).toNat (IntKind.u64.wrap ((d : Int) + 1)).toNat = bsOf [UInt8.ofNat (48 + d)] := by
      intro d hd
      rw [show ((d : Int) + 1) = ((d + 1 : Nat) : Int) by omega, u64_wrap _ (by omega), Int.toNat_natCast, Int.toNat_natCast]
      exact ten_piece d hd
    have psz : ∀ d : Nat, (bsOf [UInt8.ofNat (48 + d)]).size = 1 := fun d => rfl
    have pw : ∀ d : Nat, d < 10 → IntKind.u64.wrap ((d : Int) + 1) = ((d + 1 : Nat) : Int) := by
      intro d hd
      rw [show ((d : Int) + 1) = ((d + 1 : Nat) : Int) by omega, u64_wrap _ (by omega)]
    refine evSucc ?_
    simp only [lockkeeperref1_Num.l0]
    by_cases h9 : n > 9
    · have e1 : Int.tmod (n : Int) 10 = ((n % 10 : Nat) : Int) := by rw [Int.tmod_eq_emod_of_nonneg (by omega)]; omega
      have e2 : IntKind.u64.wrap (Int.tdiv (n : Int) 10) = ((n / 10 : Nat) : Int) := by
        rw [show Int.tdiv (n : Int) 10 = ((n / 10 : Nat) : Int) by rw [Int.tdiv_eq_ediv_of_nonneg (by omega)]; omega, u64_wrap _ (by omega)]
      rw [e1, e2, piece (n % 10) (by omega), psz, pw _ (by omega)]
      have hl1 : (numL n).length ≥ 1 := List.length_pos_iff.2 (numL_ne n)
      refine evPos (by omega) (evPos (by omega) (evPos (by omega) (evPos (by omega) (evPos (by omega) ?_))))
      have hsz : (bsOf [UInt8.ofNat (48 + n % 10)] ++ x).size = 1 + x.size := by rw [ByteArray.size_append, psz]
      have hl : (numL n).length = (numL (n / 10)).length + 1 := by rw [numL_great h9]; simp
      have := ih (n / 10) (by omega) (bsOf [UInt8.ofNat (48 + n % 10)] ++ x) (by omega) (by omega)
      refine evEq this ?_
      rw [append_list, bsOf_data, numL_great h9]
      simp
    · have hl1 : (numL n).length ≥ 1 := List.length_pos_iff.2 (numL_ne n)
      rw [piece n (by omega), psz, pw _ (by omega)]
      refine evNeg (by omega) (evPos (by omega) (evPos (by omega) (evPos (by omega) (evPos (by omega) ?_))))
      refine evEq (Ev.now _) ?_
      apply ba_ext
      rw [append_list, bsOf_data, bsOf_data, numL_small h9]
theorem num_ev (n : Nat) (hn : n < 18446744073709551616) : Ev (fun k => lockkeeperref1_Num.f k (n : Int)) (bsOf (numL n)) := by
  have hl := numL_length 19 n (by omega)
  have := num_l0 n (⟨#[]⟩ : ByteArray) hn (by rw [show (⟨#[]⟩ : ByteArray).size = 0 from rfl]; omega)
  simpa [lockkeeperref1_Num.f] using this

/-! ### the number of a text -/
theorem digGo_append (xs : Bs) (c : UInt8) : ∀ n, digGo n (xs ++ [c]) = (digGo n xs).bind fun v => if isDig c = true then some (digStep v c) else none := by
  induction xs with
  | nil =>
    intro n
    simp [digGo]
  | cons x xs ih =>
    intro n
    rw [List.cons_append, digGo, digGo]
    cases isDig x with
    | true => simpa using ih (digStep n x)
    | false => simp
theorem dig_num (d : Nat) (h : d < 10) : isDig (UInt8.ofNat (48 + d)) = true := by
  unfold isDig
  rw [num_char d h]
  simp
  omega
theorem digStep_num (v d : Nat) (h : d < 10) (hv : v * 10 + d < 18446744073709551616) : digStep (v : Int) (UInt8.ofNat (48 + d)) = ((v * 10 + d : Nat) : Int) := by
  unfold digStep
  rw [num_char d h]
  have e1 : ((((48 + d : Nat) : Int) - 48) % 256) = d := by omega
  rw [e1, if_neg (by omega), show ((v : Int) * 10) = ((v * 10 : Nat) : Int) by omega, u64_wrap _ (by omega), show (((v * 10 : Nat) : Int) + (d : Int)) = ((v * 10 + d : Nat) : Int) by omega, u64_wrap _ (by omega)]
theorem digGo_num (n : Nat) : n < 18446744073709551616 → digGo 0 (numL n) = some (n : Int) := by
  induction n using Nat.strongRecOn with
  | _ n ih =>
    intro hn
    by_cases h9 : n > 9
    · rw [numL_great h9, digGo_append, ih (n / 10) (by omega) (by omega)]
      simp only [Option.bind_some]
      rw [if_pos (dig_num _ (by omega)), digStep_num _ _ (by omega) (by omega)]
      congr 2
      omega
    · rw [numL_small h9, digGo, if_pos (dig_num n (by omega))]
      have := digStep_num 0 n (by omega) (by omega)
      rw [show ((0 : Nat) : Int) = 0 from rfl] at this
      rw [this, digGo]
      congr 2
      omega
theorem digGo_zeros (z : Nat) (l : Bs) : digGo 0 (List.replicate z 48 ++ l) = digGo 0 l := by
  induction z with
  | zero => rfl
  | succ z ih =>
    rw [List.replicate_succ, List.cons_append, digGo, if_pos (by decide), show digStep 0 48 = 0 by decide]
    exact ih
def digL (l : Bs) : Int × Bool := match digGo 0 l with
  | some n => (n, l != [])
  | none => (0, false)
theorem digS_L (s : ByteArray) : digS s = digL s.data.toList := rfl
theorem digL_num (z n : Nat) (hn : n < 18446744073709551616) : digL (List.replicate z 48 ++ numL n) = ((n : Int), true) := by
  unfold digL
  rw [digGo_zeros, digGo_num n hn]
  have : (List.replicate z 48 ++ numL n) ≠ [] := by simp [numL_ne n]
  simp [this, numL_ne n]
theorem digL_nil : digL [] = (0, false) := rfl

/-! ### strings.Cut at one byte -/
theorem indexByte_at (p r : Bs) (c : UInt8) (h : c ∉ p) : Lib.indexByte (p ++ c :: r) c = (p.length : Int) := by
  induction p with
  | nil => simp [Lib.indexByte]
  | cons b p ih =>
    have hb : (b == c) = false := by
      simp only [beq_eq_false_iff_ne]
      intro e
      exact h (by simp [e])
    have := ih (fun hc => h (by simp [hc]))
    rw [List.cons_append, Lib.indexByte, hb, this]
    have h2 : (((p.length : Int)) == -1) = false := by
      simp only [beq_eq_false_iff_ne]
      omega
    rw [h2]
    simp
theorem indexByte_not (p : Bs) (c : UInt8) (h : c ∉ p) : Lib.indexByte p c = -1 := by
  induction p with
  | nil => rfl
  | cons b p ih =>
    have hb : (b == c) = false := by
      simp only [beq_eq_false_iff_ne]
      intro e
      exact h (by simp [e])
    have := ih (fun hc => h (by simp [hc]))
    rw [Lib.indexByte, hb, this]
    simp
theorem cutS_at (s : ByteArray) (p r : Bs) (c : UInt8) (hs : s.data.toList = p ++ c :: r) (h : c ∉ p) : cutS s ⟨#[c]⟩ = (bsOf p, bsOf r, true) := by
  unfold cutS Lib.cut
  have e : Lib.index s.data.toList (⟨#[c]⟩ : ByteArray).data.toList = (p.length : Int) := by
    rw [hs]
    exact (Lib.index_one _ _).trans (indexByte_at p r c h)
  rw [e, if_pos (by omega), hs]
  simp
theorem cutS_not (s : ByteArray) (c : UInt8) (h : c ∉ s.data.toList) : cutS s ⟨#[c]⟩ = (s, ⟨#[]⟩, false) := by
  unfold cutS Lib.cut
  have e : Lib.index s.data.toList (⟨#[c]⟩ : ByteArray).data.toList = -1 := (Lib.index_one _ _).trans (indexByte_not _ c h)
  rw [e, if_neg (by omega)]
  simp only [bsOf_of]
  rfl

/-! ### safe.Range -/
theorem preS_at (s : ByteArray) (m : Bs) (hs : s.data.toList = ([98, 121, 116, 101, 115, 61] : List UInt8) ++ m) : preS s = (bsOf m, true) := by
  unfold preS
  rw [hs, if_pos (by rfl)]
  rfl
theorem range_full (s : ByteArray) (x y : Bs) (hs : s.data.toList = ([98, 121, 116, 101, 115, 61] : List UInt8) ++ (x ++ 45 :: y)) (hx : (45 : UInt8) ∉ x) :
    rangeS s = (if (digL x).2 = true then (if y = [] then true else if (digL y).2 = true then decide ((digL y).1 ≥ (digL x).1) else false) else false) := by
  unfold rangeS
  rw [preS_at s _ hs]
  dsimp only
  rw [cutS_at (bsOf (x ++ 45 :: y)) x y 45 rfl hx]
  dsimp only
  rw [if_pos rfl, if_pos rfl, digS_L, digS_L, bsOf_data, bsOf_data, tl, bsOf_data]
theorem range_whole (s : ByteArray) (x : Bs) (hs : s.data.toList = ([98, 121, 116, 101, 115, 61] : List UInt8) ++ x) (hx : (45 : UInt8) ∉ x) : rangeS s = false := by
  unfold rangeS
  rw [preS_at s _ hs]
  dsimp only
  rw [cutS_not (bsOf x) 45 hx]
  rfl
theorem range_other (s : ByteArray) (h : ¬ s.data.toList.take 6 = ([98, 121, 116, 101, 115, 61] : List UInt8)) : rangeS s = false := by
  unfold rangeS preS
  rw [if_neg h]
  rfl
end Go.Proofs.Ytojcceafgkdchaa.Pr
