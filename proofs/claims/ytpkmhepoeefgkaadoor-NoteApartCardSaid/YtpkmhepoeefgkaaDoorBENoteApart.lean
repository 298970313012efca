
/- Plain laws: what NoteApart leans on, in one text. -/
import Derived.Test.YtpkmhepoeefgkaaDoorG4
import Derived.Test.YtpkmhepoeefgkaaDoorG5
import Derived.Test.YtpkmhepoeefgkaaDoorG9
import Derived.Test.YtpkmhepoeefgkaaDoorPr2
import Derived.Test.YtpkmhepoeefgkaaDoorPr4
namespace Go.Proofs.YtpkmhepoeefgkaaDoor.Pr
open Go.RowKit Go.Proofs.YtpkmhepoeefgkaaDoorW.PrintWords Go.Proofs.YtpkmhepoeefgkaaDoorW.PrintLast
set_option linter.unusedVariables false
set_option linter.unusedSimpArgs false
abbrev Bs := List UInt8
theorem tl (s : ByteArray) : s.toList = s.data.toList := ByteArray.toList_eq s
theorem ba_ext {a b : ByteArray} (h : a.data.toList = b.data.toList) : a = b := by
  rw [← bsOf_of a, ← bsOf_of b, h]
theorem size_len (s : ByteArray) : s.size = s.data.toList.length := (data_length s).symm
theorem size_bsOf (l : Bs) : (bsOf l).size = l.length := by rw [size_len]; rfl
theorem evSucc {α : Type} {g : Nat → Option α} {r : α} (h : Ev (fun k => g (k + 1)) r) : Ev g r := Ev.step (fun _ => rfl) h
theorem evEq {α : Type} {g : Nat → Option α} {r r' : α} (h : Ev g r) (e : r = r') : Ev g r' := e ▸ h
theorem evPos {α : Type} {c : Prop} [Decidable c] {g h : Nat → Option α} {r : α} (hc : c) (hg : Ev g r) : Ev (fun k => if c then g k else h k) r := by
  simp only [if_pos hc]
  exact hg
theorem evNeg {α : Type} {c : Prop} [Decidable c] {g h : Nat → Option α} {r : α} (hc : ¬ c) (hg : Ev h r) : Ev (fun k => if c then g k else h k) r := by
  simp only [if_neg hc]
  exact hg
theorem evBind {α β : Type} {a : Option α} {x : α} {f : Nat → α → Option β} {r : β} (h : a = some x) (k : Ev (fun n => f n x) r) : Ev (fun n => a.bind (f n)) r := by
  subst h
  exact k
def isDig (c : UInt8) : Bool := decide ((c.toNat : Int) ≥ 48) && decide ((c.toNat : Int) ≤ 57)
def digStep (n : Int) (c : UInt8) : Int :=
  if n > (18446744073709551615 - (((c.toNat : Int) - 48) % 256)) / 10 then 18446744073709551615 else IntKind.u64.wrap ((IntKind.u64.wrap (n * 10)) + (((c.toNat : Int) - 48) % 256))
def digGo : Int → Bs → Option Int
  | n, [] => some n
  | n, c :: r => if isDig c = true then digGo (digStep n c) r else none
def digS (s : ByteArray) : Int × Bool := match digGo 0 s.data.toList with
  | some n => (n, s.data.toList != [])
  | none => (0, false)
def numL (n : Nat) : Bs := if h : n > 9 then numL (n / 10) ++ [UInt8.ofNat (48 + n % 10)] else [UInt8.ofNat (48 + n)]
termination_by n
decreasing_by omega
theorem numL_great {n : Nat} (h : n > 9) : numL n = numL (n / 10) ++ [UInt8.ofNat (48 + n % 10)] := by
  rw [numL, dif_pos h]
theorem numL_small {n : Nat} (h : ¬ n > 9) : numL n = [UInt8.ofNat (48 + n)] := by
  rw [numL, dif_neg h]
theorem numL_length : ∀ (k n : Nat), n < 10 ^ (k + 1) → (numL n).length ≤ k + 1 := by
  intro k
  induction k with
  | zero =>
    intro n h
    rw [numL_small (by omega)]
    simp
  | succ k ih =>
    intro n h
    by_cases h9 : n > 9
    · rw [numL_great h9]
      have := ih (n / 10) (by rw [Nat.pow_succ] at h; omega)
      simp
      omega
    · rw [numL_small h9]
      simp
theorem numL_ne (n : Nat) : numL n ≠ [] := by
  by_cases h9 : n > 9
  · rw [numL_great h9]; simp
  · rw [numL_small h9]; simp
def isNum (c : UInt8) : Prop := 48 ≤ c.toNat ∧ c.toNat ≤ 57
theorem num_char (d : Nat) (h : d < 10) : (UInt8.ofNat (48 + d)).toNat = 48 + d := by
  rw [UInt8.toNat_ofNat']
  omega
theorem numL_chars (n : Nat) : ∀ c ∈ numL n, isNum c := by
  induction n using Nat.strongRecOn with
  | _ n ih =>
    intro c hc
    by_cases h9 : n > 9
    · rw [numL_great h9] at hc
      rcases List.mem_append.1 hc with hc | hc
      · exact ih (n / 10) (by omega) c hc
      · rw [List.mem_singleton.1 hc]
        unfold isNum
        rw [num_char _ (by omega)]
        omega
    · rw [numL_small h9] at hc
      rw [List.mem_singleton.1 hc]
      unfold isNum
      rw [num_char _ (by omega)]
      omega
theorem u64_wrap (n : Nat) (h : n < 18446744073709551616) : IntKind.u64.wrap (n : Int) = n := by
  rw [show IntKind.u64.wrap (n : Int) = (n : Int) % 18446744073709551616 by simp [IntKind.wrap, IntKind.bits, IntKind.signed]]
  omega
theorem digGo_append (xs : Bs) (c : UInt8) : ∀ n, digGo n (xs ++ [c]) = (digGo n xs).bind fun v => if isDig c = true then some (digStep v c) else none := by
  induction xs with
  | nil =>
    intro n
    simp [digGo]
  | cons x xs ih =>
    intro n
    rw [List.cons_append, digGo, digGo]
    cases isDig x with
    | true => simpa using ih (digStep n x)
    | false => simp
theorem dig_num (d : Nat) (h : d < 10) : isDig (UInt8.ofNat (48 + d)) = true := by
  unfold isDig
  rw [num_char d h]
  simp
  omega
theorem digStep_num (v d : Nat) (h : d < 10) (hv : v * 10 + d < 18446744073709551616) : digStep (v : Int) (UInt8.ofNat (48 + d)) = ((v * 10 + d : Nat) : Int) := by
  unfold digStep
  rw [num_char d h]
  have e1 : ((((48 + d : Nat) : Int) - 48) % 256) = d := by omega
  rw [e1, if_neg (by omega), show ((v : Int) * 10) = ((v * 10 : Nat) : Int) by omega, u64_wrap _ (by omega), show (((v * 10 : Nat) : Int) + (d : Int)) = ((v * 10 + d : Nat) : Int) by omega, u64_wrap _ (by omega)]
theorem digGo_num (n : Nat) : n < 18446744073709551616 → digGo 0 (numL n) = some (n : Int) := by
  induction n using Nat.strongRecOn with
  | _ n ih =>
    intro hn
    by_cases h9 : n > 9
    · rw [numL_great h9, digGo_append, ih (n / 10) (by omega) (by omega)]
      simp only [Option.bind_some]
      rw [if_pos (dig_num _ (by omega)), digStep_num _ _ (by omega) (by omega)]
      congr 2
      omega
    · rw [numL_small h9, digGo, if_pos (dig_num n (by omega))]
      have := digStep_num 0 n (by omega) (by omega)
      rw [show ((0 : Nat) : Int) = 0 from rfl] at this
      rw [this, digGo]
      congr 2
      omega
theorem digGo_zeros (z : Nat) (l : Bs) : digGo 0 (List.replicate z 48 ++ l) = digGo 0 l := by
  induction z with
  | zero => rfl
  | succ z ih =>
    rw [List.replicate_succ, List.cons_append, digGo, if_pos (by decide), show digStep 0 48 = 0 by decide]
    exact ih
def digL (l : Bs) : Int × Bool := match digGo 0 l with
  | some n => (n, l != [])
  | none => (0, false)
theorem digS_L (s : ByteArray) : digS s = digL s.data.toList := rfl
theorem digL_num (z n : Nat) (hn : n < 18446744073709551616) : digL (List.replicate z 48 ++ numL n) = ((n : Int), true) := by
  unfold digL
  rw [digGo_zeros, digGo_num n hn]
  have : (List.replicate z 48 ++ numL n) ≠ [] := by simp [numL_ne n]
  simp [this, numL_ne n]
def splitC (c : UInt8) : Bs → List Bs
  | [] => [[]]
  | b :: l => if b = c then [] :: splitC c l else match splitC c l with
    | [] => [[b]]
    | x :: xs => (b :: x) :: xs
theorem splitC_not (c : UInt8) (l : Bs) (h : c ∉ l) : splitC c l = [l] := by
  induction l with
  | nil => rfl
  | cons b l ih =>
    have hb : ¬ b = c := fun e => h (by simp [e])
    rw [splitC, if_neg hb, ih (fun hc => h (by simp [hc]))]
theorem splitC_at (c : UInt8) (p r : Bs) (h : c ∉ p) : splitC c (p ++ c :: r) = p :: splitC c r := by
  induction p with
  | nil => rw [List.nil_append, splitC, if_pos rfl]
  | cons b p ih =>
    have hb : ¬ b = c := fun e => h (by simp [e])
    rw [List.cons_append, splitC, if_neg hb, ih (fun hc => h (by simp [hc]))]
theorem wf_u64 {b : Int} (hb : (Lit.int .u64 b).wf = true) : 0 ≤ b ∧ b ≤ 18446744073709551615 := by
  have h : IntKind.u64.min ≤ b ∧ b ≤ IntKind.u64.max := by simpa [Lit.wf] using hb
  rw [show IntKind.u64.min = 0 from rfl, show IntKind.u64.max = 18446744073709551615 from rfl] at h
  exact h
theorem dec_numL (n : Nat) : Lib.decDigits n = numL n := by
  induction n using Nat.strongRecOn with
  | _ n ih =>
    rw [Lib.decDigits, numL]
    by_cases h : n < 10
    · rw [dif_pos h, dif_neg (by omega)]
    · rw [dif_neg h, dif_pos (by omega), ih (n / 10) (by omega)]
theorem itoa_f (n : Nat) (h : n ≤ 9223372036854775807) : strconv_Itoa.f (n : Int) = some (bsOf (numL n)) := by
  unfold strconv_Itoa.f
  rw [if_pos ⟨by omega, by omega⟩]
  unfold Lib.itoa
  rw [if_neg (by omega), Int.toNat_natCast, dec_numL]
abbrev EvT := S24
def wfI (a : Int) : Prop := -9223372036854775808 ≤ a ∧ a ≤ 9223372036854775807
def wfE (e : EvT) : Prop := wfI e.f0 ∧ (0 ≤ e.f1 ∧ e.f1 ≤ 18446744073709551615) ∧ wfI e.f2 ∧ wfI e.f3 ∧ wfI e.f4 ∧ wfI e.f5 ∧ wfI e.f6
def okE (e : EvT) : Bool := evOk e.f0 e.f2 e.f3 e.f4 e.f5 e.f6
def nameB (k : Int) : ByteArray := rdOf ByteArray.empty evNames (k - 1)
def wordsE (e : EvT) : List Bs := [numL e.f0.toNat, numL e.f1.toNat, (nameB e.f2).data.toList, numL e.f3.toNat, numL e.f4.toNat, numL e.f5.toNat, numL e.f6.toNat]
def joinSp (l : List Bs) : Bs := Lib.join l ([32] : List UInt8)
def showE (e : EvT) : ByteArray := if okE e = true then bsOf (joinSp (wordsE e)) else ⟨#[]⟩
theorem wf_int {a : Int} (h : (Lit.int .i64 a).wf = true) : wfI a := by
  have h : IntKind.i64.min ≤ a ∧ a ≤ IntKind.i64.max := by simpa [Lit.wf] using h
  rw [show IntKind.i64.min = -9223372036854775808 from rfl, show IntKind.i64.max = 9223372036854775807 from rfl] at h
  exact h
theorem okE_parts {e : EvT} (h : okE e = true) : (1 ≤ e.f2 ∧ e.f2 ≤ 18) ∧ 0 ≤ e.f0 ∧ 0 ≤ e.f3 ∧ 0 ≤ e.f4 ∧ 0 ≤ e.f5 ∧ 0 ≤ e.f6 := by
  unfold okE evOk at h
  simp only [Bool.and_eq_true, decide_eq_true_eq] at h
  exact ⟨h.1, h.2⟩
theorem joinSp_one (a : Bs) : joinSp [a] = a := by simp [joinSp, Lib.join, List.intercalate, List.intersperse]
theorem joinSp_cons (a b : Bs) (l : List Bs) : joinSp (a :: b :: l) = a ++ 32 :: joinSp (b :: l) := by simp [joinSp, Lib.join, List.intercalate, List.intersperse]
theorem split_joinSp (E : List Bs) (h : E ≠ []) (hE : ∀ s ∈ E, (32 : UInt8) ∉ s) : splitC 32 (joinSp E) = E := by
  induction E with
  | nil => exact absurd rfl h
  | cons a l ih =>
    cases l with
    | nil => rw [joinSp_one, splitC_not _ _ (hE a (by simp))]
    | cons b l => rw [joinSp_cons, splitC_at _ _ _ (hE a (by simp)), ih (by simp) fun x hx => hE x (by simp [hx])]
theorem names_all : ∀ j : Nat, j < 18 → (rdOf ByteArray.empty evNames (j : Int)).data.toList ≠ [] ∧ (rdOf ByteArray.empty evNames (j : Int)).size ≤ 6 ∧ ∀ c ∈ (rdOf ByteArray.empty evNames (j : Int)).data.toList, c.toNat ≥ 97
  | 0, _ | 1, _ | 2, _ | 3, _ | 4, _ | 5, _ | 6, _ | 7, _ | 8, _ | 9, _ | 10, _ | 11, _ | 12, _ | 13, _ | 14, _ | 15, _ | 16, _ | 17, _ => by decide
  | n + 18, h => absurd h (by omega)
theorem name_parts {k : Int} (h : 1 ≤ k ∧ k ≤ 18) : (nameB k).data.toList ≠ [] ∧ (nameB k).size ≤ 6 ∧ ∀ c ∈ (nameB k).data.toList, c.toNat ≥ 97 := by
  obtain ⟨j, hj, rfl⟩ : ∃ j : Nat, j < 18 ∧ k = (j : Int) + 1 := ⟨(k - 1).toNat, by omega, by omega⟩
  have := names_all j hj
  unfold nameB
  rw [show (j : Int) + 1 - 1 = (j : Int) by omega]
  exact this
theorem num_plain32 (n : Nat) (c : UInt8) (hc : c ∈ numL n) : c ≠ 32 ∧ c ≠ 10 := by
  have := numL_chars n c hc
  unfold isNum at this
  exact ⟨fun e => by rw [e, show (32 : UInt8).toNat = 32 from rfl] at this; omega, fun e => by rw [e, show (10 : UInt8).toNat = 10 from rfl] at this; omega⟩
theorem words_plain {e : EvT} (h : okE e = true) : ∀ s ∈ wordsE e, ∀ c ∈ s, c ≠ 32 ∧ c ≠ 10 := by
  obtain ⟨hk, _⟩ := okE_parts h
  have hn := (name_parts hk).2.2
  intro s hs c hc
  simp only [wordsE, List.mem_cons, List.mem_nil_iff, or_false] at hs
  rcases hs with rfl | rfl | rfl | rfl | rfl | rfl | rfl
  · exact num_plain32 _ c hc
  · exact num_plain32 _ c hc
  · have := hn c hc
    exact ⟨fun e => by rw [e, show (32 : UInt8).toNat = 32 from rfl] at this; omega, fun e => by rw [e, show (10 : UInt8).toNat = 10 from rfl] at this; omega⟩
  · exact num_plain32 _ c hc
  · exact num_plain32 _ c hc
  · exact num_plain32 _ c hc
  · exact num_plain32 _ c hc
theorem show_split {e : EvT} (h : okE e = true) : splitC 32 (showE e).data.toList = wordsE e := by
  unfold showE
  rw [if_pos h, bsOf_data, split_joinSp _ (by simp [wordsE]) fun s hs hc => (words_plain h s hs 32 hc).1 rfl]
theorem num20 {n : Int} (h0 : 0 ≤ n) (h : n ≤ 18446744073709551615) : (numL n.toNat).length ≤ 20 := numL_length 19 n.toNat (by omega)
theorem show_size (e : EvT) (hw : wfE e) : (showE e).size ≤ 200 := by
  unfold showE
  by_cases h : okE e = true
  · rw [if_pos h, size_bsOf]
    obtain ⟨hk, p0, p3, p4, p5, p6⟩ := okE_parts h
    obtain ⟨w0, w1, w2, w3, w4, w5, w6⟩ := hw
    unfold wfI at w0 w2 w3 w4 w5 w6
    have l0 := num20 p0 (by omega)
    have l1 := num20 w1.1 w1.2
    have l3 := num20 p3 (by omega)
    have l4 := num20 p4 (by omega)
    have l5 := num20 p5 (by omega)
    have l6 := num20 p6 (by omega)
    have l2 := (name_parts hk).2.1
    rw [size_len] at l2
    unfold wordsE
    simp only [joinSp_cons, joinSp_one, List.length_append, List.length_cons]
    omega
  · rw [if_neg h]
    exact Nat.zero_le _
theorem joinB_sp (l : List Bs) : joinB (l.map bsOf) (⟨#[32]⟩ : ByteArray) = bsOf (joinSp l) := by
  unfold joinB joinSp
  rw [List.map_map]
  congr 1
  show Lib.join (l.map fun x => (bsOf x).data.toList) ([32] : List UInt8) = _
  simp [bsOf_data]
theorem formatUint_f (n : Int) (h0 : 0 ≤ n) (h1 : n ≤ 18446744073709551615) : strconv_FormatUint.f n 10 = some (bsOf (numL n.toNat)) := by
  unfold strconv_FormatUint.f
  rw [if_pos ⟨h0, h1, rfl⟩, dec_numL]
theorem itoa_i (n : Int) (h0 : 0 ≤ n) (h1 : n ≤ 9223372036854775807) : strconv_Itoa.f n = some (bsOf (numL n.toNat)) := by
  obtain ⟨m, rfl⟩ := Int.eq_ofNat_of_zero_le h0
  exact itoa_f m (by omega)
theorem show_ev (e : EvT) (hw : wfE e) : Ev (fun k => note_Show.f k e.f0 e.f1 e.f2 e.f3 e.f4 e.f5 e.f6) (showE e) := by
  obtain ⟨a, b, c, d, p, q, n⟩ := e
  have hsz := show_size ⟨a, b, c, d, p, q, n⟩ hw
  unfold note_Show.f
  refine evBind (show note_Check.f a b c d p q n = some (okE ⟨a, b, c, d, p, q, n⟩) from rfl) ?_
  by_cases h : okE ⟨a, b, c, d, p, q, n⟩ = true
  · obtain ⟨hk, p0, p3, p4, p5, p6⟩ := okE_parts h
    obtain ⟨w0, w1, w2, w3, w4, w5, w6⟩ := hw
    unfold wfI at w0 w2 w3 w4 w5 w6
    dsimp only at hk p0 p3 p4 p5 p6 w0 w1 w2 w3 w4 w5 w6
    refine evPos h (evBind (itoa_i a p0 w0.2) (evBind (formatUint_f b w1.1 w1.2) (evBind (show note_Name.f c = some (nameB c) by unfold note_Name.f nameB; rw [if_pos hk]) ?_)))
    have hjoin : strings_Join.f ([bsOf (numL a.toNat), bsOf (numL b.toNat), nameB c, bsOf (numL d.toNat), bsOf (numL p.toNat), bsOf (numL q.toNat), bsOf (numL n.toNat)] : List ByteArray) (⟨#[32]⟩ : ByteArray) = some (showE ⟨a, b, c, d, p, q, n⟩) := by
      have e1 : ([bsOf (numL a.toNat), bsOf (numL b.toNat), nameB c, bsOf (numL d.toNat), bsOf (numL p.toNat), bsOf (numL q.toNat), bsOf (numL n.toNat)] : List ByteArray) = (wordsE ⟨a, b, c, d, p, q, n⟩).map bsOf := by
        simp only [wordsE, List.map_cons, List.map_nil, bsOf_of]
      have e2 := joinB_sp (wordsE ⟨a, b, c, d, p, q, n⟩)
      have e3 : showE ⟨a, b, c, d, p, q, n⟩ = bsOf (joinSp (wordsE ⟨a, b, c, d, p, q, n⟩)) := by unfold showE; rw [if_pos h]
      have e4 : (Lib.join (((wordsE ⟨a, b, c, d, p, q, n⟩).map bsOf).map (·.data.toList)) ((⟨#[32]⟩ : ByteArray)).data.toList).length ≤ 200 := by
        have h5 := congrArg (fun s : ByteArray => s.data.toList.length) e2
        rw [e3, size_bsOf] at hsz
        exact Nat.le_trans (Nat.le_of_eq h5) hsz
      rw [e1]
      unfold strings_Join.f
      rw [if_pos ⟨by simp [wordsE], Nat.le_trans e4 (by decide)⟩, e2, e3]
    have fin : Ev (fun k => note_Show.l0 d p q n k ([bsOf (numL a.toNat), bsOf (numL b.toNat), nameB c, bsOf (numL d.toNat), bsOf (numL p.toNat), bsOf (numL q.toNat), bsOf (numL n.toNat)] : List ByteArray) 4) (showE ⟨a, b, c, d, p, q, n⟩) := by
      refine evSucc ?_
      simp only [note_Show.l0]
      exact evNeg (by decide) (evBind hjoin (Ev.now _))
    have step : ∀ (i x : Int) (l : List ByteArray) (r : ByteArray), 0 ≤ i → i < 4 → l.length ≤ 100 → rd ([d, p, q, n] : List Int) i = x → 0 ≤ x → x ≤ 9223372036854775807 → Ev (fun k => note_Show.l0 d p q n k (l ++ [bsOf (numL x.toNat)]) (i + 1)) r → Ev (fun k => note_Show.l0 d p q n k l i) r := by
      intro i x l r hi hi4 hl hx x0 x1 hn
      have e2 : wrap64 (i + 1) = i + 1 := by unfold wrap64; omega
      refine evSucc ?_
      simp only [note_Show.l0, hx, e2]
      exact evPos (by omega) (evPos (by omega) (evBind (itoa_i x x0 x1) (evPos (by omega) hn)))
    exact step 0 d _ _ (by decide) (by decide) (by simp) rfl p3 w3.2 (step 1 p _ _ (by decide) (by decide) (by simp) rfl p4 w4.2 (step 2 q _ _ (by decide) (by decide) (by simp) rfl p5 w5.2 (step 3 n _ _ (by decide) (by decide) (by simp) rfl p6 w6.2 fin)))
  · refine evNeg h (evEq (Ev.now _) ?_)
    unfold showE
    rw [if_neg h]
def numberV (s : Bs) : Int := if (digS (bsOf s)).2 = true then (if (digS (bsOf s)).1 > 9223372036854775807 then -1 else (digS (bsOf s)).1) else -1
def kindV (s : Bs) : Int := match evNames.findIdx? (fun n => n.data.toList == s) with
  | some j => (j : Int) + 1
  | none => 0
abbrev ET := Int × Int × Int × Int × Int × Int × Int × Int
def noE : ET := (0, 0, 0, 0, 0, 0, 0, 3)
def toT (e : EvT) : ET := (e.f0, e.f1, e.f2, e.f3, e.f4, e.f5, e.f6, 0)
def ofW : List Bs → EvT
  | [w0, w1, w2, w3, w4, w5, w6] => ⟨numberV w0, (digS (bsOf w1)).1, kindV w2, numberV w3, numberV w4, numberV w5, numberV w6⟩
  | _ => ⟨0, 0, 0, 0, 0, 0, 0⟩
def readB (s : ByteArray) : Bool := (splitC 32 s.data.toList).length == 7 && (showE (ofW (splitC 32 s.data.toList))).data.toList == s.data.toList
def readS (s : ByteArray) : ET := if readB s = true then toT (ofW (splitC 32 s.data.toList)) else noE
theorem number_num (n : Int) (h0 : 0 ≤ n) (h1 : n ≤ 9223372036854775807) : numberV (numL n.toNat) = n := by
  have hd : digS (bsOf (numL n.toNat)) = (n, true) := by
    have := digL_num 0 n.toNat (by omega)
    rw [List.replicate_zero, List.nil_append] at this
    rw [digS_L, bsOf_data, this]
    congr 1
    omega
  unfold numberV
  rw [hd, if_pos rfl, if_neg (by dsimp only; omega)]
theorem digS_num (n : Int) (h0 : 0 ≤ n) (h1 : n ≤ 18446744073709551615) : (digS (bsOf (numL n.toNat))).1 = n := by
  have := digL_num 0 n.toNat (by omega)
  rw [List.replicate_zero, List.nil_append] at this
  rw [digS_L, bsOf_data, this]
  dsimp only
  omega
theorem kind_names : ∀ j : Nat, j < 18 → kindV (rdOf ByteArray.empty evNames (j : Int)).data.toList = (j : Int) + 1
  | 0, _ | 1, _ | 2, _ | 3, _ | 4, _ | 5, _ | 6, _ | 7, _ | 8, _ | 9, _ | 10, _ | 11, _ | 12, _ | 13, _ | 14, _ | 15, _ | 16, _ | 17, _ => by decide
  | n + 18, h => absurd h (by omega)
theorem kind_name {k : Int} (h : 1 ≤ k ∧ k ≤ 18) : kindV (nameB k).data.toList = k := by
  obtain ⟨j, hj, rfl⟩ : ∃ j : Nat, j < 18 ∧ k = (j : Int) + 1 := ⟨(k - 1).toNat, by omega, by omega⟩
  have := kind_names j hj
  unfold nameB
  rw [show (j : Int) + 1 - 1 = (j : Int) by omega]
  exact this
theorem ofW_words {e : EvT} (hw : wfE e) (h : okE e = true) : ofW (wordsE e) = e := by
  obtain ⟨hk, p0, p3, p4, p5, p6⟩ := okE_parts h
  obtain ⟨w0, w1, w2, w3, w4, w5, w6⟩ := hw
  unfold wfI at w0 w2 w3 w4 w5 w6
  unfold wordsE ofW
  dsimp only
  rw [number_num _ p0 w0.2, digS_num _ w1.1 w1.2, kind_name hk, number_num _ p3 w3.2, number_num _ p4 w4.2, number_num _ p5 w5.2, number_num _ p6 w6.2]
theorem read_show {e : EvT} (hw : wfE e) (h : okE e = true) : readS (showE e) = toT e := by
  unfold readS readB
  rw [show_split h, ofW_words hw h, if_pos (by simp [wordsE])]
theorem show_inj {a b : EvT} (ha : wfE a) (hb : wfE b) (oa : okE a = true) (ob : okE b = true) (h : showE a = showE b) : a = b := by
  have h1 := read_show ha oa
  rw [h, read_show hb ob] at h1
  obtain ⟨a0, a1, a2, a3, a4, a5, a6⟩ := a
  obtain ⟨b0, b1, b2, b3, b4, b5, b6⟩ := b
  simp only [toT, Prod.mk.injEq] at h1
  obtain ⟨rfl, rfl, rfl, rfl, rfl, rfl, rfl, _⟩ := h1
  rfl
theorem awake24 : ∃ k, lockkeeperlaw24_awake.f k = some true := ⟨60, by decide +kernel⟩
theorem awake24_ev : Ev (fun k => lockkeeperlaw24_awake.f k) true := Ev.of lockkeeperlaw24_awake.mono awake24.choose_spec
end Go.Proofs.YtpkmhepoeefgkaaDoor.Pr
