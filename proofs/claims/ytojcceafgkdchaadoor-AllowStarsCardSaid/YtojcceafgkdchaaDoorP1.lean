/- Plain laws of the printed functions of chapter 1 (octet): what they come to, on lists of bytes. -/
import Derived.Test.YtojcceafgkdchaaDoorG2
import Derived.Test.YtojcceafgkdchaaDoorPr1
import Derived.Test.YtojcceafgkdchaaDoorPr2
import Derived.Test.YtojcceafgkdchaaDoorPr4
namespace Go.Proofs.YtojcceafgkdchaaDoor.Pr
open Go.RowKit Go.Proofs.YtojcceafgkdchaaDoorW.PrintWords Go.Proofs.YtojcceafgkdchaaDoorW.PrintLast
set_option linter.unusedVariables false
set_option linter.unusedSimpArgs false

abbrev Bs := List UInt8
theorem tl (s : ByteArray) : s.toList = s.data.toList := ByteArray.toList_eq s
theorem ba_ext {a b : ByteArray} (h : a.data.toList = b.data.toList) : a = b := by
  rw [← bsOf_of a, ← bsOf_of b, h]
theorem tl_eq (a b : ByteArray) : (a.toList = b.toList) ↔ a = b := by
  rw [tl, tl]
  exact ⟨ba_ext, fun h => by rw [h]⟩
theorem tl_beq (a b : ByteArray) : (a.toList == b.toList) = (a.data.toList == b.data.toList) := by rw [tl, tl]
theorem size_len (s : ByteArray) : s.size = s.data.toList.length := (data_length s).symm
theorem size_bsOf (l : Bs) : (bsOf l).size = l.length := by rw [size_len]; rfl
theorem bsOf_inj {a b : Bs} (h : bsOf a = bsOf b) : a = b := by
  have := congrArg (fun s : ByteArray => s.data.toList) h
  simpa [bsOf] using this
theorem extract_list (s : ByteArray) (a b : Nat) : (s.extract a b).data.toList = (s.data.toList.take b).drop a := by
  simp [List.drop_take]
theorem append_list (s t : ByteArray) : (s ++ t).data.toList = s.data.toList ++ t.data.toList := by simp

theorem bt_get (s : ByteArray) (i : Nat) (h : i < s.size) : bt s (i : Int) = ((s.data.toList.getD i 0).toNat : Int) := by
  have h' : i < s.data.toList.length := by rw [← size_len]; exact h
  unfold bt
  rw [dif_pos (by simpa using h), List.getD_eq_getElem?_getD, List.getElem?_eq_getElem h']
  simp
  rfl

theorem indexByte_mem (l : Bs) (c : UInt8) : decide (Lib.indexByte l c ≥ 0) = l.contains c := by
  induction l with
  | nil => rfl
  | cons b l ih =>
    unfold Lib.indexByte
    have hge := Lib.indexByte_ge l c
    by_cases h : b = c
    · subst h
      simp
    · have h1 : (b == c) = false := by simpa using h
      have h2 : (c == b) = false := by simpa using fun e => h e.symm
      rw [h1, List.contains_cons, h2, Bool.false_or, ← ih]
      simp only [Bool.false_eq_true, if_false]
      by_cases h3 : Lib.indexByte l c = -1
      · simp [h3]
      · have h4 : (Lib.indexByte l c == -1) = false := by simpa using h3
        rw [h4]
        simp
        omega

def isBl (c : UInt8) : Bool := c == 9 || c == 10 || c == 13 || c == 32
theorem blank_f (c : UInt8) : octet_blank.f (c.toNat : Int) = some (isBl c) := by
  unfold octet_blank.f strings_IndexByte.f
  simp only [Option.bind_some]
  rw [indexByte_mem]
  congr 1
  rw [Bool.eq_iff_iff]
  simp [isBl, or_assoc]

/-! ### octet.Trim -/
def trimR (l : Bs) : Bs := (l.reverse.dropWhile isBl).reverse
def trimL (l : Bs) : Bs := trimR (l.dropWhile isBl)
def trimS (s : ByteArray) : ByteArray := bsOf (trimL s.data.toList)

theorem trim_l1 (n : Nat) : ∀ s : ByteArray, s.size = n → n ≤ 4611686018427387904 → Ev (fun k => octet_Trim.l1 k s) (bsOf (trimR s.data.toList)) := by
  induction n with
  | zero =>
    intro s hs _
    have hl : s.data.toList = [] := List.eq_nil_of_length_eq_zero (by rw [← size_len]; exact hs)
    refine Ev.step (f := fun _ => some s) (fun k => ?_) ?_
    · simp only [octet_Trim.l1]
      rw [if_pos (by rw [tl, hl])]
    · rw [hl, ← bsOf_of s, hl]
      exact Ev.now _
  | succ n ih =>
    intro s hs hn
    have hlen : s.data.toList.length = n + 1 := by rw [← size_len]; exact hs
    obtain ⟨l, c, hl⟩ : ∃ l c, s.data.toList = l ++ [c] := by
      have hne : s.data.toList ≠ [] := by intro e; rw [e] at hlen; simp at hlen
      exact ⟨_, _, (List.dropLast_concat_getLast hne).symm⟩
    have hll : l.length = n := by rw [hl] at hlen; simpa using hlen
    have hw : wrap64 ((s.size : Int) - 1) = (n : Int) := by rw [hs]; unfold wrap64; omega
    have hb : bt s ((n : Nat) : Int) = (c.toNat : Int) := by
      rw [bt_get s n (by omega), hl]
      simp [List.getD_eq_getElem?_getD, hll]
    have hne : ¬ s.toList = [] := by rw [tl, hl]; simp
    by_cases hc : isBl c = true
    · refine Ev.step (f := fun k => octet_Trim.l1 k (s.extract 0 n)) (fun k => ?_) ?_
      · simp only [octet_Trim.l1]
        rw [if_neg hne, hw, if_pos (by omega), if_pos (by omega), hb, blank_f]
        simp only [Option.bind_some]
        rw [if_pos hc, if_pos (by omega)]
        rfl
      · have he : (s.extract 0 n).data.toList = l := by
          rw [extract_list, hl]
          simp [← hll]
        have hsz : (s.extract 0 n).size = n := by rw [size_len, he, hll]
        have := ih _ hsz (by omega)
        rw [he] at this
        have e2 : trimR s.data.toList = trimR l := by
          rw [hl]
          simp [trimR, hc]
        rw [e2]
        exact this
    · refine Ev.step (f := fun _ => some s) (fun k => ?_) ?_
      · simp only [octet_Trim.l1]
        rw [if_neg hne, hw, if_pos (by omega), if_pos (by omega), hb, blank_f]
        simp only [Option.bind_some]
        rw [if_neg hc]
      · have e2 : trimR s.data.toList = s.data.toList := by
          rw [hl]
          simp [trimR, hc]
        rw [e2, bsOf_of]
        exact Ev.now _

theorem trim_j1 (s : ByteArray) (hn : s.size ≤ 4611686018427387904) : Ev (fun k => octet_Trim.j1 k s) (bsOf (trimR s.data.toList)) :=
  Ev.step (fun k => rfl) (trim_l1 _ s rfl hn)

theorem trim_l0 (n : Nat) : ∀ s : ByteArray, s.size = n → n ≤ 4611686018427387904 → Ev (fun k => octet_Trim.l0 k s) (trimS s) := by
  induction n with
  | zero =>
    intro s hs hn
    have hl : s.data.toList = [] := List.eq_nil_of_length_eq_zero (by rw [← size_len]; exact hs)
    refine Ev.step (f := fun k => octet_Trim.j1 k s) (fun k => ?_) ?_
    · simp only [octet_Trim.l0]
      rw [if_pos (by rw [tl, hl])]
    · have := trim_j1 s (by omega)
      unfold trimS trimL
      rw [hl] at this ⊢
      exact this
  | succ n ih =>
    intro s hs hn
    have hlen : s.data.toList.length = n + 1 := by rw [← size_len]; exact hs
    obtain ⟨c, l, hl⟩ : ∃ c l, s.data.toList = c :: l := by
      cases h : s.data.toList with
      | nil => rw [h] at hlen; simp at hlen
      | cons c l => exact ⟨c, l, rfl⟩
    have hll : l.length = n := by rw [hl] at hlen; simpa using hlen
    have hb : bt s 0 = (c.toNat : Int) := by
      have := bt_get s 0 (by omega)
      rw [hl] at this
      simpa using this
    have hne : ¬ s.toList = [] := by rw [tl, hl]; simp
    by_cases hc : isBl c = true
    · refine Ev.step (f := fun k => octet_Trim.l0 k (s.extract 1 s.size)) (fun k => ?_) ?_
      · simp only [octet_Trim.l0]
        rw [if_neg hne, if_pos (by omega), hb, blank_f]
        simp only [Option.bind_some]
        rw [if_pos hc, if_pos (by omega)]
      · have he : (s.extract 1 s.size).data.toList = l := by
          rw [extract_list, hl, hs]
          simp [← hll]
        have hsz : (s.extract 1 s.size).size = n := by rw [size_len, he, hll]
        have := ih _ hsz (by omega)
        unfold trimS at this ⊢
        rw [he] at this
        rw [hl]
        have e2 : trimL (c :: l) = trimL l := by simp [trimL, hc]
        rw [e2]
        exact this
    · refine Ev.step (f := fun k => octet_Trim.j1 k s) (fun k => ?_) ?_
      · simp only [octet_Trim.l0]
        rw [if_neg hne, if_pos (by omega), hb, blank_f]
        simp only [Option.bind_some]
        rw [if_neg hc]
      · have := trim_j1 s (by omega)
        unfold trimS trimL
        have e2 : s.data.toList.dropWhile isBl = s.data.toList := by rw [hl]; simp [hc]
        rw [e2]
        exact this
theorem trim_ev (s : ByteArray) (hn : s.size ≤ 4611686018427387904) : Ev (fun k => octet_Trim.f k s) (trimS s) := trim_l0 _ s rfl hn

/-! ### octet.Lower, Fold -/
def lowC (c : UInt8) : UInt8 := if 65 ≤ c ∧ c ≤ 90 then c + 32 else c
def lowL (l : Bs) : Bs := l.map lowC
theorem strOfNums_bytes (l : Bs) : strOfNums (l.map fun b => (b.toNat : Int)) = bsOf l := by
  unfold strOfNums bsOf
  congr 1
  congr 1
  rw [List.map_map]
  conv => rhs; rw [← List.map_id l]
  apply List.map_congr_left
  intro b _
  simp
theorem lowI_lowC (c : UInt8) : lowI (c.toNat : Int) = ((lowC c).toNat : Int) := by
  unfold lowI lowC
  have hc := c.toNat_lt
  simp only [UInt8.le_iff_toNat_le, UInt8.toNat_ofNat]
  by_cases h : 65 ≤ c.toNat ∧ c.toNat ≤ 90
  · rw [if_pos (by omega), if_pos (by simpa using h)]
    simp [UInt8.toNat_add]
    omega
  · rw [if_neg (by omega), if_neg (by simpa using h)]
theorem lowS_eq (s : ByteArray) : lowS s = bsOf (lowL s.data.toList) := by
  unfold lowS lowL
  rw [← strOfNums_bytes]
  congr 1
  apply List.ext_getElem?
  intro i
  simp only [bytesOf, List.getElem?_mapIdx, List.getElem?_map]
  cases s.data.toList[i]? with
  | none => rfl
  | some c => simp [lowI_lowC]
theorem lower_f (s : ByteArray) (h : s.size ≤ 9223372036854775807) : octet_Lower.f s = some (bsOf (lowL s.data.toList)) := by
  unfold octet_Lower.f
  rw [if_pos h, lowS_eq]
def foldB (a b : ByteArray) : Bool := lowL a.data.toList == lowL b.data.toList
theorem fold_f (a b : ByteArray) (ha : a.size ≤ 9223372036854775807) (hb : b.size ≤ 9223372036854775807) : octet_Fold.f a b = some (foldB a b) := by
  unfold octet_Fold.f
  rw [lower_f a ha, lower_f b hb]
  simp only [Option.bind_some]
  rw [tl_beq]
  rfl

/-! ### lockkeeperlaw0.Long -/
def longS : Int → List ByteArray → Bool
  | _, [] => false
  | n, s :: r => if (s.size : Int) ≥ n then true else longS (n - s.size - 1) r
theorem long_l0 (r : List ByteArray) : ∀ (p : List ByteArray) (n : Int), 0 ≤ n → n ≤ 4611686018427387904 → (p ++ r).length ≤ 9223372036854775806 → Ev (fun k => lockkeeperlaw0_Long.l0 k n (p ++ r) (p.length : Int)) (longS n r) := by
  induction r with
  | nil =>
    intro p n _ _ _
    refine Ev.step (f := fun _ => some false) (fun k => ?_) (Ev.now _)
    simp only [lockkeeperlaw0_Long.l0]
    rw [if_neg (by simp)]
  | cons s r ih =>
    intro p n h0 hn hl
    have hr : rdOf ByteArray.empty (p ++ s :: r) (p.length : Int) = s := by simp [rdOf, List.getD_eq_getElem?_getD]
    have hlen : (p ++ s :: r).length = p.length + (r.length + 1) := by simp
    by_cases h : (s.size : Int) ≥ n
    · refine Ev.step (f := fun _ => some true) (fun k => ?_) (by rw [longS, if_pos h]; exact Ev.now _)
      simp only [lockkeeperlaw0_Long.l0]
      rw [if_pos (by omega), if_pos (by omega), hr, if_pos h]
    · refine Ev.step (f := fun k => lockkeeperlaw0_Long.l0 k (n - s.size - 1) ((p ++ [s]) ++ r) ((p ++ [s]).length : Int)) (fun k => ?_) ?_
      · simp only [lockkeeperlaw0_Long.l0]
        rw [if_pos (by omega), if_pos (by omega), hr, if_neg h]
        have e1 : wrap64 (wrap64 (n - (s.size : Int)) - 1) = n - s.size - 1 := by unfold wrap64; omega
        have e2 : wrap64 ((p.length : Int) + 1) = ((p ++ [s]).length : Int) := by simp; unfold wrap64; omega
        rw [e1, e2]
        simp
      · rw [longS, if_neg h]
        exact ih (p ++ [s]) _ (by omega) (by omega) (by simpa using hl)
theorem long_ev (n : Int) (l : List ByteArray) (h0 : 0 ≤ n) (hn : n ≤ 4611686018427387904) (hl : l.length ≤ 9223372036854775806) : Ev (fun k => lockkeeperlaw0_Long.f k n l) (longS n l) := by
  have := long_l0 l [] n h0 hn (by simpa using hl)
  simpa [lockkeeperlaw0_Long.f] using this
theorem longS_size : ∀ (l : List ByteArray) (n : Int), longS n l = false → ∀ s ∈ l, (s.size : Int) < n := by
  intro l
  induction l with
  | nil => intro n _ s hs; cases hs
  | cons a r ih =>
    intro n h s hs
    rw [longS] at h
    by_cases ha : (a.size : Int) ≥ n
    · rw [if_pos ha] at h; cases h
    · rw [if_neg ha] at h
      rcases List.mem_cons.1 hs with rfl | hs
      · omega
      · have := ih _ h s hs
        omega

/-! ### octet.Join -/
def joinS (l : List ByteArray) : ByteArray := joinB l ⟨#[44, 32]⟩
theorem join_f (l : List ByteArray) (h1 : l.length ≤ 140737488355328) (h2 : (joinS l).size ≤ 140737488355328) : octet_Join.f l = some (joinS l) := by
  unfold octet_Join.f strings_Join.f
  rw [if_pos]
  · rfl
  · refine ⟨h1, ?_⟩
    have := h2
    unfold joinS joinB at this
    rw [size_bsOf] at this
    exact this
end Go.Proofs.YtojcceafgkdchaaDoor.Pr
